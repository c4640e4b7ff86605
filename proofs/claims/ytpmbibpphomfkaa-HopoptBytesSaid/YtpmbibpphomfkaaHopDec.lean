/- The program's Decode of the hop option. -/
import Derived.Test.YtpmbibpphomfkaaHopRdec
set_option maxRecDepth 100000
set_option linter.unusedVariables false
set_option linter.unusedSimpArgs false
namespace Go.Proofs.Ytpmbibpphomfkaa.Hb
open Go.RowKit Go.Proofs.YtpmbibpphomfkaaW.PrintWords Go.Proofs.Ytpmbibpphomfkaa.Pk
theorem dec_short (A : Option Addr) (c : Nat) (l : List Int) (w : World) (h : Kd.C (Kd.int .u8) w A l.length l) (hl : l.length < 8) : Calls Try.prog 6 #[.slice A l.length c] w fun e w' => e = .returned (.tuple #[.int .i64 0, .agg #[.bool false, .bool false, .bool false, .int .i64 0, .int .i64 0], .slice none 0 0, .int .i64 4]) ∧ Below w.heap.size w w' := by
  have HC := Lib.hid h
  clear h
  go_enter Try.func6, Try.ntmps6
  go_upto_region 1 with (fail)
  have HZ := Lib.hid (blk_new w #[.bool false, .bool false, .bool false, .int .i64 0, .int .i64 0] 28)
  have HBa := Lib.hid (below_new w (.cells #[.bool false, .bool false, .bool false, .int .i64 0, .int .i64 0] 28))
  have HCa := Lib.hid (Kd.C_below HC.out (below_new w (.cells #[.bool false, .bool false, .bool false, .int .i64 0, .int .i64 0] 28)))
  (obtain ⟨g0, hg0⟩ : ∃ g, w.heap.size = g := ⟨_, rfl⟩)
  rw [hg0] at HZ
  have HG := Lib.hid hg0
  simp only [hg0]
  generalize w.alloc (.cells #[.bool false, .bool false, .bool false, .int .i64 0, .int .i64 0] 28) = wa at HZ HBa HCa ⊢
  clear HC hg0
  have z0 := (blk_cell HZ.out 0).trans (show _ = some (.bool false) from rfl)
  have f0 := blk_frozen HZ.out 0
  have z1 := (blk_cell HZ.out 1).trans (show _ = some (.bool false) from rfl)
  have f1 := blk_frozen HZ.out 1
  have z2 := (blk_cell HZ.out 2).trans (show _ = some (.bool false) from rfl)
  have f2 := blk_frozen HZ.out 2
  have z3 := (blk_cell HZ.out 3).trans (show _ = some (.int .i64 0) from rfl)
  have f3 := blk_frozen HZ.out 3
  have z4 := (blk_cell HZ.out 4).trans (show _ = some (.int .i64 0) from rfl)
  have f4 := blk_frozen HZ.out 4
  have hgle : w.heap.size ≤ g0 := by rw [HG.out]; exact Nat.le_refl _
  go_wp2_with fail
  refine bodyPost_ret (results_list (rs := [.tmp 2, .cell 3 28, .tmp 4, .tmp 5]) rfl (by simp) (.tmp (.cell g0 28 #[.bool false, .bool false, .bool false, .int .i64 0, .int .i64 0] (0, 0) _ rfl (blk_put (cs' := #[.bool false, .bool false, .bool false, .int .i64 0, .int .i64 0]) (blk_put (cs' := #[.bool false, .bool false, .bool false, .int .i64 0, .int .i64 0]) (blk_put (cs' := #[.bool false, .bool false, .bool false, .int .i64 0, .int .i64 0]) (blk_put (cs' := #[.bool false, .bool false, .bool false, .int .i64 0, .int .i64 0]) (blk_put (cs' := #[.bool false, .bool false, .bool false, .int .i64 0, .int .i64 0]) (HZ.out) 0 _ rfl) 1 _ rfl) 2 _ rfl) 3 _ rfl) 4 _ rfl) Try.underlying28 rfl (by kernel_rfl) (.tmp (.tmp .nil))))) rfl ?_
  exact ⟨rfl, ((((HBa.out.setCell (p := ⟨g0, 0, none⟩) hgle _).setCell (p := ⟨g0, 1, none⟩) hgle _).setCell (p := ⟨g0, 2, none⟩) hgle _).setCell (p := ⟨g0, 3, none⟩) hgle _).setCell (p := ⟨g0, 4, none⟩) hgle _⟩
theorem many6 (x0 x1 x2 x3 x4 x5 x6 x7 : Int) (rest : List Int) : manyF ([x0, x1, x2, x3, x4, x5, x6, x7] ++ rest) 0 1 6 = [x0, x1, x2, x3, x4, x5] := by
  simp [manyF, List.range, List.range.loop, joinF]
theorem take2 (x0 x1 x2 x3 x4 x5 x6 x7 : Int) (rest : List Int) : joinF ((([x0, x1, x2, x3, x4, x5, x6, x7] ++ rest).drop 6).take 2) = 256 * x6 + x7 := by
  simp [joinF]; omega
theorem own_cells {w : World} {base n : Nat} {v : Value} {l : List Int} (h : w.ownsRow base 3 1 v n (encs (Value.int .i64) l)) (hn : 0 < n) : ∃ g c, v = .slice (some ⟨g, 0, none⟩) n c ∧ n ≤ c ∧ base ≤ g ∧ ∀ i, i < n → w.cell? ⟨g, i, none⟩ = some (.int .i64 (rd l i)) := by
  obtain ⟨g, c, hv, hc, hb⟩ : ∃ g c, v = .slice (some ⟨g, 0, none⟩) n c ∧ n ≤ c ∧ base ≤ g := by
    rcases h.2 with ⟨_, h2⟩ | ⟨g, cap, cur, rfl, hb, _, hnc, _⟩
    · omega
    · exact ⟨g, cap, rfl, hnc, hb⟩
  subst hv
  refine ⟨g, c, rfl, hc, hb, fun i hi => ?_⟩
  obtain ⟨ad, ha, hcell⟩ := Kd.at_int (own_C h) i (by omega) (by omega)
  cases ha
  have e : (Addr.add ⟨g, 0, none⟩ i) = ⟨g, i, none⟩ := by unfold Addr.add; split <;> simp_all
  simp only [Int.toNat_natCast] at hcell
  rw [e] at hcell
  exact hcell
theorem blk5 {w : World} {g gx : Nat} {o : Obj} (h : w.heap[g]? = some o) (hne : g ≠ gx) (u0 u1 u2 u3 u4 : Value) : (((((w.setCell ⟨gx, 0, none⟩ u0).setCell ⟨gx, 1, none⟩ u1).setCell ⟨gx, 2, none⟩ u2).setCell ⟨gx, 3, none⟩ u3).setCell ⟨gx, 4, none⟩ u4).heap[g]? = some o :=
  kp_blk h ((((((Kp.refl w (fun k => k = gx)).setCell (p := ⟨gx, 0, none⟩) (.inl rfl) u0).setCell (p := ⟨gx, 1, none⟩) (.inl rfl) u1).setCell (p := ⟨gx, 2, none⟩) (.inl rfl) u2).setCell (p := ⟨gx, 3, none⟩) (.inl rfl) u3).setCell (p := ⟨gx, 4, none⟩) (.inl rfl) u4) hne
structure Fct (w : World) (l : List Int) (a : Addr) (c g0 gc gl gx : Nat) (x0 x1 x2 x3 x4 x5 v6 : Int) (q1 q2 q3 : Bool) (wv : World) : Prop where
  hq : wv.heap[gx]? = some (.cells #[.bool q1, .bool q2, .bool q3, .int .i64 x5, .int .i64 v6] 28 (0, 0))
  cu : Cu wv gc (some a) l.length c 8 0
  hz : wv.heap[g0]? = some (.cells #[.bool false, .bool false, .bool false, .int .i64 0, .int .i64 0] 28 (0, 0))
  hc : Kd.C (Kd.int .u8) wv (some a) l.length l
  hb : Below w.heap.size w wv
  kc : ∀ i : Nat, i < 6 → wv.cell? ⟨gl, i, none⟩ = some (.int .i64 (rd [x0, x1, x2, x3, x4, x5] i))
  n1 : gl ≠ gx
  n2 : gc ≠ gx
  n3 : g0 ≠ gx
  n4 : a.block ≠ gx
  n5 : w.heap.size ≤ gx
  m1 : gl ≠ gc
  m2 : a.block ≠ gc
  m3 : g0 ≠ gc
  m4 : w.heap.size ≤ gc
theorem Fct.below {w : World} {l : List Int} {a : Addr} {c g0 gc gl gx : Nat} {x0 x1 x2 x3 x4 x5 v6 : Int} {q1 q2 q3 : Bool} {wv W : World} (h : Fct w l a c g0 gc gl gx x0 x1 x2 x3 x4 x5 v6 q1 q2 q3 wv) (hb : Below wv.heap.size wv W) : Fct w l a c g0 gc gl gx x0 x1 x2 x3 x4 x5 v6 q1 q2 q3 W :=
  ⟨blk_bel h.hq hb, blk_bel h.cu hb, blk_bel h.hz hb, Kd.C_below h.hc hb, bel h.hb hb, fun i hi => (World.cell?_of_block (hb.block gl (World.block_lt_of_cell? _ _ (h.kc i hi)))).trans (h.kc i hi), h.n1, h.n2, h.n3, h.n4, h.n5, h.m1, h.m2, h.m3, h.m4⟩
theorem Fct.set {w : World} {l : List Int} {a : Addr} {c g0 gc gl gx : Nat} {x0 x1 x2 x3 x4 x5 v6 : Int} {wv : World} (h : Fct w l a c g0 gc gl gx x0 x1 x2 x3 x4 x5 v6 false false false wv) (q1 q2 q3 : Bool) : Fct w l a c g0 gc gl gx x0 x1 x2 x3 x4 x5 v6 q1 q2 q3 (((wv.setCell ⟨gx, 0, none⟩ (.bool q1)).setCell ⟨gx, 1, none⟩ (.bool q2)).setCell ⟨gx, 2, none⟩ (.bool q3)) := by
  have k := (((Kp.refl wv (fun k => k = gx)).setCell (p := ⟨gx, 0, none⟩) (.inl rfl) (.bool q1)).setCell (p := ⟨gx, 1, none⟩) (.inl rfl) (.bool q2)).setCell (p := ⟨gx, 2, none⟩) (.inl rfl) (.bool q3)
  exact ⟨blk_put (cs' := #[.bool q1, .bool q2, .bool q3, .int .i64 x5, .int .i64 v6]) (blk_put (cs' := #[.bool q1, .bool q2, .bool false, .int .i64 x5, .int .i64 v6]) (blk_put (cs' := #[.bool q1, .bool false, .bool false, .int .i64 x5, .int .i64 v6]) h.hq 0 _ rfl) 1 _ rfl) 2 _ rfl, kp_blk h.cu k h.n2, kp_blk h.hz k h.n3, C_kp h.hc k h.n4, h.hb.trans (k.to h.hb.size (fun j hj => by rw [hj]; exact h.n5)), fun i hi => cell_kept (h.kc i hi) k.kept h.n1, h.n1, h.n2, h.n3, h.n4, h.n5, h.m1, h.m2, h.m3, h.m4⟩
theorem fin256 {P : Int → Prop} (h : ∀ i : Fin 256, P (i.val : Int)) (x : Int) (h0 : 0 ≤ x) (h1 : x ≤ 255) : P x := by
  have := h ⟨x.toNat, by omega⟩
  simp only [show ((x.toNat : Nat) : Int) = x by omega] at this
  exact this
theorem and128 (x : Int) (h0 : 0 ≤ x) (h1 : x ≤ 255) : (bits .and .i64 x 128 != 0) = (x / 128 == 1) := fin256 (P := fun x => (bits .and .i64 x 128 != 0) = (x / 128 == 1)) (by decide +kernel) x h0 h1
theorem and64 (x : Int) (h0 : 0 ≤ x) (h1 : x ≤ 255) : (bits .and .i64 x 64 != 0) = (x / 64 % 2 == 1) := fin256 (P := fun x => (bits .and .i64 x 64 != 0) = (x / 64 % 2 == 1)) (by decide +kernel) x h0 h1
theorem and32 (x : Int) (h0 : 0 ≤ x) (h1 : x ≤ 255) : (bits .and .i64 x 32 != 0) = (x / 32 % 2 == 1) := fin256 (P := fun x => (bits .and .i64 x 32 != 0) = (x / 32 % 2 == 1)) (by decide +kernel) x h0 h1
theorem flF_byte (x : Int) (h0 : 0 ≤ x) (h1 : x ≤ 255) : flF (x / 128 == 1) (x / 64 % 2 == 1) (x / 32 % 2 == 1) = x - x % 32 := fin256 (P := fun x => flF (x / 128 == 1) (x / 64 % 2 == 1) (x / 32 % 2 == 1) = x - x % 32) (by decide +kernel) x h0 h1
set_option maxHeartbeats 4000000 in
theorem dec_ok (A : Option Addr) (c : Nat) (l : List Int) (x0 x1 x2 x3 x4 x5 x6 x7 : Int) (rest : List Int) (hx : l = [x0, x1, x2, x3, x4, x5, x6, x7] ++ rest) (w : World) (h : Kd.C (Kd.int .u8) w A l.length l) (hc : l.length ≤ c) (hc2 : c ≤ 9223372036854775807) (hl3 : l.length ≤ 1000000000) (hb : ∀ x ∈ l, 0 ≤ x ∧ x ≤ 255) (h1 : x1 = 0) (h2 : x2 = 99) (h3 : x3 = 4) (h4 : x4 % 32 = 0) :
    Calls Try.prog 6 #[.slice A l.length c] w fun e w' => (∃ v, e = .returned (.tuple #[.int .i64 x0, .agg #[.bool (x4 / 128 == 1), .bool (x4 / 64 % 2 == 1), .bool (x4 / 32 % 2 == 1), .int .i64 x5, .int .i64 (256 * x6 + x7)], v, .int .i64 0]) ∧ w'.ownsRow w.heap.size 5 1 v rest.length (encs (Value.int .u8) rest)) ∧ Below w.heap.size w w' := by
  have hl : 8 ≤ l.length := by rw [hx]; simp
  obtain ⟨a, rfl⟩ : ∃ a, A = some a := by
    cases A with
    | some a => exact ⟨a, rfl⟩
    | none => obtain ⟨ad, he, _⟩ := h.2.2 (by omega); cases he
  have HX := Lib.hid hx
  have HBy := Lib.hid hb
  have hm6 : manyF l 0 1 6 = [x0, x1, x2, x3, x4, x5] := by rw [hx]; exact many6 x0 x1 x2 x3 x4 x5 x6 x7 rest
  have HM6 := Lib.hid hm6
  have HX4 := Lib.hid (hb x4 (by rw [hx]; simp))
  have HT2 := Lib.hid (show joinF ((l.drop 6).take 2) = 256 * x6 + x7 by rw [hx]; exact take2 x0 x1 x2 x3 x4 x5 x6 x7 rest)
  have HC := Lib.hid h
  have hal := Lib.hid (C_lt8 h (by omega))
  clear h hb hx hm6
  go_enter Try.func6, Try.ntmps6
  go_upto_region 1 with (fail)
  have HZ := Lib.hid (blk_new w #[.bool false, .bool false, .bool false, .int .i64 0, .int .i64 0] 28)
  have HBa := Lib.hid (below_new w (.cells #[.bool false, .bool false, .bool false, .int .i64 0, .int .i64 0] 28))
  have HCa := Lib.hid (Kd.C_below HC.out (below_new w (.cells #[.bool false, .bool false, .bool false, .int .i64 0, .int .i64 0] 28)))
  (obtain ⟨g0, hg0⟩ : ∃ g, w.heap.size = g := ⟨_, rfl⟩)
  rw [hg0] at HZ
  have HG := Lib.hid hg0
  simp only [hg0]
  generalize w.alloc (.cells #[.bool false, .bool false, .bool false, .int .i64 0, .int .i64 0] 28) = wa at HZ HBa HCa ⊢
  clear HC hg0
  have z0 := (blk_cell HZ.out 0).trans (show _ = some (.bool false) from rfl)
  have f0 := blk_frozen HZ.out 0
  have z1 := (blk_cell HZ.out 1).trans (show _ = some (.bool false) from rfl)
  have f1 := blk_frozen HZ.out 1
  have z2 := (blk_cell HZ.out 2).trans (show _ = some (.bool false) from rfl)
  have f2 := blk_frozen HZ.out 2
  have z3 := (blk_cell HZ.out 3).trans (show _ = some (.int .i64 0) from rfl)
  have f3 := blk_frozen HZ.out 3
  have z4 := (blk_cell HZ.out 4).trans (show _ = some (.int .i64 0) from rfl)
  have f4 := blk_frozen HZ.out 4
  have hgle : w.heap.size ≤ g0 := by rw [HG.out]; exact Nat.le_refl _
  go_wp2_with fail
  refine (over_any (some a) l.length c _).mono ?_
  rintro e w2 ⟨rfl, hcu, hb2⟩
  (obtain ⟨gc, hgc⟩ : ∃ g, wa.heap.size = g := ⟨_, rfl⟩)
  rw [hgc] at hcu
  simp only [hgc]
  have HCU := Lib.hid hcu
  have HZ2 := Lib.hid (blk_bel HZ.out hb2)
  have HC2 := Lib.hid (Kd.C_below HCa.out hb2)
  have HB2 := Lib.hid (bel HBa.out hb2)
  have hgz : g0 < gc := by rw [← hgc]; exact blk_lt HZ.out
  have hac : a.block ≠ gc := by have := hal.out; rw [HG.out] at this; omega
  have HSG := Lib.hid (show w.heap.size ≤ gc by omega)
  clear hcu hb2 hgc HZ HCa HBa z0 f0 z1 f1 z2 f2 z3 f3 z4 f4
  go_wp2_with fail
  refine (many_ok gc (some a) c l 0 1 6 6 256 rfl (by omega) (by decide) (by decide) w2 HCU.out (fun w' hk => C_kp HC2.out hk hac) HBy.out hc hc2 (by omega) hl3).mono ?_
  rintro e w3 ⟨⟨v7, rfl, ho⟩, h3, k3⟩
  rw [HM6.out] at ho
  obtain ⟨gl, c7, rfl, hc7, hglb, hcl⟩ := own_cells ho (by decide)
  have HO3 := Lib.hid ho
  have HCU3 := Lib.hid h3
  have HZ3 := Lib.hid (kp_blk HZ2.out k3 (by omega))
  have HC3 := Lib.hid (C_kp HC2.out k3 hac)
  have HB3 := Lib.hid (HB2.out.trans (k3.to HB2.out.size (fun k hk => by rw [hk]; exact HSG.out)))
  have k5 : w3.cell? ⟨gl, 5, none⟩ = some (.int .i64 x5) := hcl 5 (by decide)
  have HGL := Lib.hid (show gc < gl by have := blk_lt HCU.out; omega)
  have HCL := Lib.hid hcl
  clear ho h3 k3 hcl HCU HZ2 HC2 HB2
  go_wp2_with fail
  have hglc : gl ≠ gc := by have := HGL.out; omega
  have T5 : ∀ W, Below w3.heap.size w3 W → Calls Try.prog 19 #[.pointer (some ⟨gc, 0, none⟩), .int .i64 2] W fun e w' => e = .returned (.int .i64 (256 * x6 + x7)) ∧ Cu w' gc (some a) l.length c 8 0 ∧ Kp W w' (fun k => k = gc) := fun W hW => take_ok gc a c l 6 2 8 (256 * x6 + x7) 65536 HT2.out rfl (by decide) (by decide) (by decide) W (blk_bel HCU3.out hW) (Kd.C_below HC3.out hW) HBy.out (fun w' hk => C_kp (Kd.C_below HC3.out hW) hk hac) hc hc2 (by omega)
  have hg3 : w3.heap.size ≠ gc := by have := blk_lt HCU3.out; omega
  have hgl3 : gl ≠ w3.heap.size := by have hh : gl < w3.heap.size := World.block_lt_of_cell? _ _ k5; omega
  have hQ3 : ((w3.alloc (.cells #[.bool false, .bool false, .bool false, .int .i64 0, .int .i64 0] 28)).drew).heap[w3.heap.size]? = some (.cells #[.bool false, .bool false, .bool false, .int .i64 0, .int .i64 0] 28 (0, 0)) := blk_new w3 #[.bool false, .bool false, .bool false, .int .i64 0, .int .i64 0] 28
  have HQ3 := Lib.hid hQ3
  clear hQ3
  go_region_held3 (fun W => W.cell? ⟨gl, 5, none⟩ = some (.int .i64 x5)) (first | (with_reducible exact cell5 k5t hgl3 _ _ _ _ _) | (with_reducible exact k5) | (with_reducible exact celld k5) | (with_reducible exact cell_al k5) | (with_reducible exact celld (cell_al k5)) | (with_reducible exact cell_al (celld k5)) | (with_reducible exact k5t) | (with_reducible exact cell_al k5t)) (first | (go_at_call 19; (first | refine (T5 _ (Below.refl _ _)).mono ?_ | refine (T5 _ (Below.refl _ _).drew).mono ?_ | refine (T5 _ (below_new _ _)).mono ?_ | refine (T5 _ (below_new _ _).drew).mono ?_ | refine (T5 _ ((Below.refl _ _).drew.alloc (Nat.le_refl _) _)).mono ?_); rintro e wt ⟨rfl, ht, kt⟩; (first | (have k5t : wt.cell? ⟨gl, 5, none⟩ = some (.int .i64 x5) := cell_kept k5 kt.kept hglc) | (have k5t : wt.cell? ⟨gl, 5, none⟩ = some (.int .i64 x5) := cell_kept (cell_al k5) kt.kept hglc; have hq5 := kp_blk HQ3.out kt hg3; have z0 := (blk_cell hq5 0).trans (show _ = some (.bool false) from rfl); have f0 := blk_frozen hq5 0; have z1 := (blk_cell hq5 1).trans (show _ = some (.bool false) from rfl); have f1 := blk_frozen hq5 1; have z2 := (blk_cell hq5 2).trans (show _ = some (.bool false) from rfl); have f2 := blk_frozen hq5 2; have z3 := (blk_cell hq5 3).trans (show _ = some (.int .i64 0) from rfl); have f3 := blk_frozen hq5 3; have z4 := (blk_cell hq5 4).trans (show _ = some (.int .i64 0) from rfl); have f4 := blk_frozen hq5 4;  have HQ5 := Lib.hid hq5; clear hq5))))
  focus
    -- the call first, the box behind it
    have hks : w3.heap.size ≤ wt.heap.size := kt.kept.1
    have kA := ((Kp.refl w3 (fun k => k = gc)).drew.then_ kt (fun _ h => .inl h)).below (below_new wt (.cells #[.bool false, .bool false, .bool false, .int .i64 x5, .int .i64 (256 * x6 + x7)] 28))
    have hls : gl < w3.heap.size := World.block_lt_of_cell? _ _ k5
    have hcs := blk_lt HCU3.out
    have hzs := blk_lt HZ3.out
    have F : Fct w l a c g0 gc gl wt.heap.size x0 x1 x2 x3 x4 x5 (256 * x6 + x7) false false false (wt.alloc (.cells #[.bool false, .bool false, .bool false, .int .i64 x5, .int .i64 (256 * x6 + x7)] 28)) := ⟨blk_new wt #[.bool false, .bool false, .bool false, .int .i64 x5, .int .i64 (256 * x6 + x7)] 28, blk_bel ht (below_new wt (.cells #[.bool false, .bool false, .bool false, .int .i64 x5, .int .i64 (256 * x6 + x7)] 28)), kp_blk HZ3.out kA (by omega), C_kp HC3.out kA hac, HB3.out.trans (kA.to HB3.out.size (fun k hk => by rw [hk]; exact HSG.out)), fun i hi => cell_kept (HCL.out i hi) kA.kept hglc, by omega, by omega, by omega, by have := hal.out; omega, by have := HSG.out; omega, hglc, hac, by omega, HSG.out⟩
    obtain ⟨gx, hgx⟩ : ∃ g, wt.heap.size = g := ⟨_, rfl⟩
    rw [hgx] at F
    simp only [hgx]
    generalize wt.alloc (.cells #[.bool false, .bool false, .bool false, .int .i64 x5, .int .i64 (256 * x6 + x7)] 28) = wv at F ⊢
    have HF := Lib.hid F
    clear F ht kt k5t hks kA hls hcs hzs T5 k5 HQ3 hg3 hgl3 hgx HCL HC3 HZ3 HCU3 HB3 HO3
  rotate_left
  focus
    -- the box first, the call behind it
    have hks : w3.heap.size ≤ wt.heap.size := Nat.le_trans (size_new w3 (.cells #[.bool false, .bool false, .bool false, .int .i64 0, .int .i64 0] 28)) kt.kept.1
    have kB0 := ((Kp.refl w3 (fun k => k = gc)).below (below_new w3 (.cells #[.bool false, .bool false, .bool false, .int .i64 0, .int .i64 0] 28))).drew.then_ kt (fun _ h => .inl h)
    have kB := ((((kB0.setCell (p := ⟨w3.heap.size, 0, none⟩) (.inr (Nat.le_refl _)) (.bool false)).setCell (p := ⟨w3.heap.size, 1, none⟩) (.inr (Nat.le_refl _)) (.bool false)).setCell (p := ⟨w3.heap.size, 2, none⟩) (.inr (Nat.le_refl _)) (.bool false)).setCell (p := ⟨w3.heap.size, 3, none⟩) (.inr (Nat.le_refl _)) (.int .i64 x5)).setCell (p := ⟨w3.heap.size, 4, none⟩) (.inr (Nat.le_refl _)) (.int .i64 (256 * x6 + x7))
    have hls : gl < w3.heap.size := World.block_lt_of_cell? _ _ k5
    have hcs := blk_lt HCU3.out
    have hzs := blk_lt HZ3.out
    have F : Fct w l a c g0 gc gl w3.heap.size x0 x1 x2 x3 x4 x5 (256 * x6 + x7) false false false _ := ⟨(blk_put (cs' := #[.bool false, .bool false, .bool false, .int .i64 x5, .int .i64 (256 * x6 + x7)]) (blk_put (cs' := #[.bool false, .bool false, .bool false, .int .i64 x5, .int .i64 0]) (blk_put (cs' := #[.bool false, .bool false, .bool false, .int .i64 0, .int .i64 0]) (blk_put (cs' := #[.bool false, .bool false, .bool false, .int .i64 0, .int .i64 0]) (blk_put (cs' := #[.bool false, .bool false, .bool false, .int .i64 0, .int .i64 0]) (HQ5.out) 0 _ rfl) 1 _ rfl) 2 _ rfl) 3 _ rfl) 4 _ rfl), blk5 ht hg3.symm (.bool false) (.bool false) (.bool false) (.int .i64 x5) (.int .i64 (256 * x6 + x7)), kp_blk HZ3.out kB (by omega), C_kp HC3.out kB hac, HB3.out.trans (kB.to HB3.out.size (fun k hk => by rw [hk]; exact HSG.out)), fun i hi => cell_kept (HCL.out i hi) kB.kept hglc, by omega, by omega, by omega, by have := hal.out; omega, by have := HSG.out; omega, hglc, hac, by omega, HSG.out⟩
    obtain ⟨gx, hgx⟩ : ∃ g, w3.heap.size = g := ⟨_, rfl⟩
    clear kB kB0 HQ5 z0 f0 z1 f1 z2 f2 z3 f3 z4 f4
    rw [hgx] at F
    simp only [hgx]
    generalize (((((wt.setCell ⟨gx, 0, none⟩ (.bool false)).setCell ⟨gx, 1, none⟩ (.bool false)).setCell ⟨gx, 2, none⟩ (.bool false)).setCell ⟨gx, 3, none⟩ (.int .i64 x5)).setCell ⟨gx, 4, none⟩ (.int .i64 (256 * x6 + x7))) = wv at F ⊢
    have HF := Lib.hid F
    clear F ht kt k5t hks hls hcs hzs T5 k5 HQ3 hg3 hgl3 hgx HCL HC3 HZ3 HCU3 HB3 HO3
  all_goals (
    have k4 : wv.cell? ⟨gl, 4, none⟩ = some (.int .i64 x4) := HF.out.kc 4 (by decide)
    have s0 := (blk_cell HF.out.hq 0).trans (show _ = some (.bool false) from rfl)
    have f0 := blk_frozen HF.out.hq 0
    have s1 := (blk_cell HF.out.hq 1).trans (show _ = some (.bool false) from rfl)
    have f1 := blk_frozen HF.out.hq 1
    have s2 := (blk_cell HF.out.hq 2).trans (show _ = some (.bool false) from rfl)
    have f2 := blk_frozen HF.out.hq 2
    go_upto_region 8 with (fail)
    have hx4 := HX4.out
    rw [and128 x4 hx4.1 hx4.2, and64 x4 hx4.1 hx4.2, and32 x4 hx4.1 hx4.2]
    have HG8 := Lib.hid (HF.out.set (x4 / 128 == 1) (x4 / 64 % 2 == 1) (x4 / 32 % 2 == 1))
    clear HF k4 s0 f0 s1 f1 s2 f2
    generalize (((wv.setCell ⟨gx, 0, none⟩ (.bool (x4 / 128 == 1))).setCell ⟨gx, 1, none⟩ (.bool (x4 / 64 % 2 == 1))).setCell ⟨gx, 2, none⟩ (.bool (x4 / 32 % 2 == 1))) = wx at HG8 ⊢
    have k0 : wx.cell? ⟨gl, 0, none⟩ = some (.int .i64 x0) := HG8.out.kc 0 (by decide)
    have k1 : wx.cell? ⟨gl, 1, none⟩ = some (.int .i64 x1) := HG8.out.kc 1 (by decide)
    have k2 : wx.cell? ⟨gl, 2, none⟩ = some (.int .i64 x2) := HG8.out.kc 2 (by decide)
    have k3 : wx.cell? ⟨gl, 3, none⟩ = some (.int .i64 x3) := HG8.out.kc 3 (by decide)
    have b1 : (x1 != 0) = false := by rw [h1]; decide
    have b2 : (x2 != 99) = false := by rw [h2]; decide
    have b3 : (x3 != 4) = false := by rw [h3]; decide
    clear h1 h2 h3
    go_upto_region 10 with (fail)
    have q0 := (blk_cell HG8.out.hq 0).trans (show _ = some (.bool (x4 / 128 == 1)) from rfl)
    have q1 := (blk_cell HG8.out.hq 1).trans (show _ = some (.bool (x4 / 64 % 2 == 1)) from rfl)
    have q2 := (blk_cell HG8.out.hq 2).trans (show _ = some (.bool (x4 / 32 % 2 == 1)) from rfl)
    have q3 := (blk_cell HG8.out.hq 3).trans (show _ = some (.int .i64 x5) from rfl)
    have q4 := (blk_cell HG8.out.hq 4).trans (show _ = some (.int .i64 (256 * x6 + x7)) from rfl)
    have HFL := Lib.hid (fun W => flags_any (x4 / 128 == 1) (x4 / 64 % 2 == 1) (x4 / 32 % 2 == 1) x5 (256 * x6 + x7) (x4 - x4 % 32) (flF_byte x4 hx4.1 hx4.2) W)
    go_wp2_with fail
    refine (HFL.out wx).mono ?_
    rintro e wy ⟨rfl, hby⟩
    have HF := Lib.hid (HG8.out.below hby)
    clear hby HG8 q0 q1 q2 q3 q4 k0 k1 k2 k3 HFL
    have b4 : (x4 != x4 - x4 % 32) = false := by rw [h4]; simp
    clear h4
    go_upto_region 12 with (fail)
    have HRL : Hid ((l.length : Int) - 8 = (rest.length : Int)) := Lib.hid (by rw [HX.out]; simp; omega)
    have HR8 : Hid ((l.drop 8).take rest.length = rest) := Lib.hid (by rw [HX.out]; simp)
    have HRN : Hid (8 + rest.length = l.length) := Lib.hid (by rw [HX.out]; simp; omega)
    have TL : ∀ W, Below wy.heap.size wy W → Calls Try.prog 21 #[.pointer (some ⟨gc, 0, none⟩)] W fun e w' => e = .returned (.int .i64 (rest.length : Int)) ∧ Below wy.heap.size wy w' ∧ (w'.cell? ⟨gl, 0, none⟩ = some (.int .i64 x0) ∧ w'.cell? ⟨gx, 0, none⟩ = some (.bool (x4 / 128 == 1)) ∧ w'.cell? ⟨gx, 1, none⟩ = some (.bool (x4 / 64 % 2 == 1)) ∧ w'.cell? ⟨gx, 2, none⟩ = some (.bool (x4 / 32 % 2 == 1)) ∧ w'.cell? ⟨gx, 3, none⟩ = some (.int .i64 x5) ∧ w'.cell? ⟨gx, 4, none⟩ = some (.int .i64 (256 * x6 + x7))) := fun W hW => (Left_any gc (some a) l.length c 8 0 W (HF.out.below hW).cu (by omega) (by omega) (by omega)).mono (by
      rintro e w' ⟨rfl, m, rfl⟩
      rw [HRL.out]
      have F := HF.out.below (pw_below_drewN hW m)
      exact ⟨rfl, pw_below_drewN hW m, F.kc 0 (by decide), (blk_cell F.hq 0).trans rfl, (blk_cell F.hq 1).trans rfl, (blk_cell F.hq 2).trans rfl, (blk_cell F.hq 3).trans rfl, (blk_cell F.hq 4).trans rfl⟩)
    have TB : ∀ W, Below wy.heap.size wy W → Calls Try.prog 20 #[.pointer (some ⟨gc, 0, none⟩), .int .i64 (rest.length : Int)] W fun e w' => (∃ v, e = .returned v ∧ Hid (w'.ownsRow w.heap.size 5 1 v rest.length (encs (Value.int .u8) rest))) ∧ Hid (Kp wy w' (fun k => k = gc)) ∧ Hid (w'.heap[g0]? = some (.cells #[.bool false, .bool false, .bool false, .int .i64 0, .int .i64 0] 28 (0, 0))) ∧ (w'.cell? ⟨gl, 0, none⟩ = some (.int .i64 x0) ∧ w'.cell? ⟨gx, 0, none⟩ = some (.bool (x4 / 128 == 1)) ∧ w'.cell? ⟨gx, 1, none⟩ = some (.bool (x4 / 64 % 2 == 1)) ∧ w'.cell? ⟨gx, 2, none⟩ = some (.bool (x4 / 32 % 2 == 1)) ∧ w'.cell? ⟨gx, 3, none⟩ = some (.int .i64 x5) ∧ w'.cell? ⟨gx, 4, none⟩ = some (.int .i64 (256 * x6 + x7))) := fun W hW => (bytes_ok gc (some a) c l 8 rest.length l.length HRN.out W (HF.out.below hW).cu (by rintro ⟨⟩) (fun w' hk => C_kp (HF.out.below hW).hc hk hac) hc hc2 (Nat.le_refl _) (by omega)).mono (by
      rintro e w' ⟨⟨v, rfl, ho⟩, hcu, hk⟩
      rw [HR8.out] at ho
      have F := HF.out.below hW
      have hq := kp_blk F.hq hk F.n2.symm
      exact ⟨⟨v, rfl, Lib.hid (own_baseX ho F.hb.size)⟩, Lib.hid ((Kp.of_below hW (fun k => k = gc)).then_ hk (fun _ h => .inl h)), Lib.hid (kp_blk F.hz hk F.m3), cell_kept (F.kc 0 (by decide)) hk.kept F.m1, (blk_cell hq 0).trans rfl, (blk_cell hq 1).trans rfl, (blk_cell hq 2).trans rfl, (blk_cell hq 3).trans rfl, (blk_cell hq 4).trans rfl⟩)
    have k0 : wy.cell? ⟨gl, 0, none⟩ = some (.int .i64 x0) := HF.out.kc 0 (by decide)
    have q0 := (blk_cell HF.out.hq 0).trans (show _ = some (.bool (x4 / 128 == 1)) from rfl)
    have q1 := (blk_cell HF.out.hq 1).trans (show _ = some (.bool (x4 / 64 % 2 == 1)) from rfl)
    have q2 := (blk_cell HF.out.hq 2).trans (show _ = some (.bool (x4 / 32 % 2 == 1)) from rfl)
    have q3 := (blk_cell HF.out.hq 3).trans (show _ = some (.int .i64 x5) from rfl)
    have q4 := (blk_cell HF.out.hq 4).trans (show _ = some (.int .i64 (256 * x6 + x7)) from rfl)
    have ng1 : gl ≠ g0 := by have := HGL.out; omega
    have ng2 : gx ≠ g0 := HF.out.n3.symm
    go_region_held3 (fun W => W.cell? ⟨gl, 0, none⟩ = some (.int .i64 x0) ∧ W.cell? ⟨gx, 0, none⟩ = some (.bool (x4 / 128 == 1)) ∧ W.cell? ⟨gx, 1, none⟩ = some (.bool (x4 / 64 % 2 == 1)) ∧ W.cell? ⟨gx, 2, none⟩ = some (.bool (x4 / 32 % 2 == 1)) ∧ W.cell? ⟨gx, 3, none⟩ = some (.int .i64 x5) ∧ W.cell? ⟨gx, 4, none⟩ = some (.int .i64 (256 * x6 + x7))) (first | (with_reducible exact ⟨k0, q0, q1, q2, q3, q4⟩) | (with_reducible exact ⟨celld k0, celld q0, celld q1, celld q2, celld q3, celld q4⟩) | (with_reducible exact ⟨l0, r0, r1, r2, r3, r4⟩) | (with_reducible exact ⟨o0, p0, p1, p2, p3, p4⟩) | (with_reducible exact ⟨cell5 o0 ng1 _ _ _ _ _, cell5 p0 ng2 _ _ _ _ _, cell5 p1 ng2 _ _ _ _ _, cell5 p2 ng2 _ _ _ _ _, cell5 p3 ng2 _ _ _ _ _, cell5 p4 ng2 _ _ _ _ _⟩)) (first | (go_at_call 21; (first | refine (TL _ (Below.refl _ _)).mono ?_ | refine (TL _ (Below.refl _ _).drew).mono ?_); rintro e wl ⟨rfl, hbl, l0, r0, r1, r2, r3, r4⟩) | (go_at_call 20; refine (TB _ hbl).mono ?_; rintro e wb ⟨⟨v12, rfl, how⟩, hkw, hzb, o0, p0, p1, p2, p3, p4⟩; have z0 := (blk_cell hzb.out 0).trans (show _ = some (.bool false) from rfl); have f0 := blk_frozen hzb.out 0; have z1 := (blk_cell hzb.out 1).trans (show _ = some (.bool false) from rfl); have f1 := blk_frozen hzb.out 1; have z2 := (blk_cell hzb.out 2).trans (show _ = some (.bool false) from rfl); have f2 := blk_frozen hzb.out 2; have z3 := (blk_cell hzb.out 3).trans (show _ = some (.int .i64 0) from rfl); have f3 := blk_frozen hzb.out 3; have z4 := (blk_cell hzb.out 4).trans (show _ = some (.int .i64 0) from rfl); have f4 := blk_frozen hzb.out 4))
    have KF := (((((Kp.refl wb (fun k => k = g0)).setCell (p := ⟨g0, 0, none⟩) (.inl rfl) (.bool (x4 / 128 == 1))).setCell (p := ⟨g0, 1, none⟩) (.inl rfl) (.bool (x4 / 64 % 2 == 1))).setCell (p := ⟨g0, 2, none⟩) (.inl rfl) (.bool (x4 / 32 % 2 == 1))).setCell (p := ⟨g0, 3, none⟩) (.inl rfl) (.int .i64 x5)).setCell (p := ⟨g0, 4, none⟩) (.inl rfl) (.int .i64 (256 * x6 + x7))
    have HOF := Lib.hid (own_kp how.out KF hzb.out (by decide))
    have HBF := Lib.hid ((HF.out.hb.trans (hkw.out.to HF.out.hb.size (fun k hk => by rw [hk]; exact HF.out.m4))).trans (KF.to (Nat.le_trans HF.out.hb.size hkw.out.kept.1) (fun k hk => by rw [hk]; exact hgle)))
    clear KF
    go_wp2_with fail
    refine bodyPost_ret (results_list (rs := [.tmp 2, .cell 3 28, .tmp 4, .tmp 5]) rfl (by simp) (.tmp (.cell g0 28 #[.bool (x4 / 128 == 1), .bool (x4 / 64 % 2 == 1), .bool (x4 / 32 % 2 == 1), .int .i64 x5, .int .i64 (256 * x6 + x7)] (0, 0) _ rfl (blk_put (cs' := #[.bool (x4 / 128 == 1), .bool (x4 / 64 % 2 == 1), .bool (x4 / 32 % 2 == 1), .int .i64 x5, .int .i64 (256 * x6 + x7)]) (blk_put (cs' := #[.bool (x4 / 128 == 1), .bool (x4 / 64 % 2 == 1), .bool (x4 / 32 % 2 == 1), .int .i64 x5, .int .i64 0]) (blk_put (cs' := #[.bool (x4 / 128 == 1), .bool (x4 / 64 % 2 == 1), .bool (x4 / 32 % 2 == 1), .int .i64 0, .int .i64 0]) (blk_put (cs' := #[.bool (x4 / 128 == 1), .bool (x4 / 64 % 2 == 1), .bool false, .int .i64 0, .int .i64 0]) (blk_put (cs' := #[.bool (x4 / 128 == 1), .bool false, .bool false, .int .i64 0, .int .i64 0]) (hzb.out) 0 _ rfl) 1 _ rfl) 2 _ rfl) 3 _ rfl) 4 _ rfl) Try.underlying28 rfl (by kernel_rfl) (.tmp (.tmp .nil))))) rfl ?_
    exact ⟨⟨v12, rfl, HOF.out⟩, HBF.out⟩)
set_option maxHeartbeats 4000000 in
theorem dec_kind1 (A : Option Addr) (c : Nat) (l : List Int) (x0 x1 x2 x3 x4 x5 x6 x7 : Int) (rest : List Int) (hx : l = [x0, x1, x2, x3, x4, x5, x6, x7] ++ rest) (w : World) (h : Kd.C (Kd.int .u8) w A l.length l) (hc : l.length ≤ c) (hc2 : c ≤ 9223372036854775807) (hl3 : l.length ≤ 1000000000) (hb : ∀ x ∈ l, 0 ≤ x ∧ x ≤ 255) (h1 : x1 ≠ 0) :
    Calls Try.prog 6 #[.slice A l.length c] w fun e w' => e = .returned (.tuple #[.int .i64 0, .agg #[.bool false, .bool false, .bool false, .int .i64 0, .int .i64 0], .slice none 0 0, .int .i64 6]) ∧ Below w.heap.size w w' := by
  have hl : 8 ≤ l.length := by rw [hx]; simp
  obtain ⟨a, rfl⟩ : ∃ a, A = some a := by
    cases A with
    | some a => exact ⟨a, rfl⟩
    | none => obtain ⟨ad, he, _⟩ := h.2.2 (by omega); cases he
  have HX := Lib.hid hx
  have HBy := Lib.hid hb
  have hm6 : manyF l 0 1 6 = [x0, x1, x2, x3, x4, x5] := by rw [hx]; exact many6 x0 x1 x2 x3 x4 x5 x6 x7 rest
  have HM6 := Lib.hid hm6
  have HX4 := Lib.hid (hb x4 (by rw [hx]; simp))
  have HT2 := Lib.hid (show joinF ((l.drop 6).take 2) = 256 * x6 + x7 by rw [hx]; exact take2 x0 x1 x2 x3 x4 x5 x6 x7 rest)
  have HC := Lib.hid h
  have hal := Lib.hid (C_lt8 h (by omega))
  clear h hb hx hm6
  go_enter Try.func6, Try.ntmps6
  go_upto_region 1 with (fail)
  have HZ := Lib.hid (blk_new w #[.bool false, .bool false, .bool false, .int .i64 0, .int .i64 0] 28)
  have HBa := Lib.hid (below_new w (.cells #[.bool false, .bool false, .bool false, .int .i64 0, .int .i64 0] 28))
  have HCa := Lib.hid (Kd.C_below HC.out (below_new w (.cells #[.bool false, .bool false, .bool false, .int .i64 0, .int .i64 0] 28)))
  (obtain ⟨g0, hg0⟩ : ∃ g, w.heap.size = g := ⟨_, rfl⟩)
  rw [hg0] at HZ
  have HG := Lib.hid hg0
  simp only [hg0]
  generalize w.alloc (.cells #[.bool false, .bool false, .bool false, .int .i64 0, .int .i64 0] 28) = wa at HZ HBa HCa ⊢
  clear HC hg0
  have z0 := (blk_cell HZ.out 0).trans (show _ = some (.bool false) from rfl)
  have f0 := blk_frozen HZ.out 0
  have z1 := (blk_cell HZ.out 1).trans (show _ = some (.bool false) from rfl)
  have f1 := blk_frozen HZ.out 1
  have z2 := (blk_cell HZ.out 2).trans (show _ = some (.bool false) from rfl)
  have f2 := blk_frozen HZ.out 2
  have z3 := (blk_cell HZ.out 3).trans (show _ = some (.int .i64 0) from rfl)
  have f3 := blk_frozen HZ.out 3
  have z4 := (blk_cell HZ.out 4).trans (show _ = some (.int .i64 0) from rfl)
  have f4 := blk_frozen HZ.out 4
  have hgle : w.heap.size ≤ g0 := by rw [HG.out]; exact Nat.le_refl _
  go_wp2_with fail
  refine (over_any (some a) l.length c _).mono ?_
  rintro e w2 ⟨rfl, hcu, hb2⟩
  (obtain ⟨gc, hgc⟩ : ∃ g, wa.heap.size = g := ⟨_, rfl⟩)
  rw [hgc] at hcu
  simp only [hgc]
  have HCU := Lib.hid hcu
  have HZ2 := Lib.hid (blk_bel HZ.out hb2)
  have HC2 := Lib.hid (Kd.C_below HCa.out hb2)
  have HB2 := Lib.hid (bel HBa.out hb2)
  have hgz : g0 < gc := by rw [← hgc]; exact blk_lt HZ.out
  have hac : a.block ≠ gc := by have := hal.out; rw [HG.out] at this; omega
  have HSG := Lib.hid (show w.heap.size ≤ gc by omega)
  clear hcu hb2 hgc HZ HCa HBa z0 f0 z1 f1 z2 f2 z3 f3 z4 f4
  go_wp2_with fail
  refine (many_ok gc (some a) c l 0 1 6 6 256 rfl (by omega) (by decide) (by decide) w2 HCU.out (fun w' hk => C_kp HC2.out hk hac) HBy.out hc hc2 (by omega) hl3).mono ?_
  rintro e w3 ⟨⟨v7, rfl, ho⟩, h3, k3⟩
  rw [HM6.out] at ho
  obtain ⟨gl, c7, rfl, hc7, hglb, hcl⟩ := own_cells ho (by decide)
  have HO3 := Lib.hid ho
  have HCU3 := Lib.hid h3
  have HZ3 := Lib.hid (kp_blk HZ2.out k3 (by omega))
  have HC3 := Lib.hid (C_kp HC2.out k3 hac)
  have HB3 := Lib.hid (HB2.out.trans (k3.to HB2.out.size (fun k hk => by rw [hk]; exact HSG.out)))
  have k5 : w3.cell? ⟨gl, 5, none⟩ = some (.int .i64 x5) := hcl 5 (by decide)
  have HGL := Lib.hid (show gc < gl by have := blk_lt HCU.out; omega)
  have HCL := Lib.hid hcl
  clear ho h3 k3 hcl HCU HZ2 HC2 HB2
  go_wp2_with fail
  have hglc : gl ≠ gc := by have := HGL.out; omega
  have T5 : ∀ W, Below w3.heap.size w3 W → Calls Try.prog 19 #[.pointer (some ⟨gc, 0, none⟩), .int .i64 2] W fun e w' => e = .returned (.int .i64 (256 * x6 + x7)) ∧ Cu w' gc (some a) l.length c 8 0 ∧ Kp W w' (fun k => k = gc) := fun W hW => take_ok gc a c l 6 2 8 (256 * x6 + x7) 65536 HT2.out rfl (by decide) (by decide) (by decide) W (blk_bel HCU3.out hW) (Kd.C_below HC3.out hW) HBy.out (fun w' hk => C_kp (Kd.C_below HC3.out hW) hk hac) hc hc2 (by omega)
  have hg3 : w3.heap.size ≠ gc := by have := blk_lt HCU3.out; omega
  have hgl3 : gl ≠ w3.heap.size := by have hh : gl < w3.heap.size := World.block_lt_of_cell? _ _ k5; omega
  have hQ3 : ((w3.alloc (.cells #[.bool false, .bool false, .bool false, .int .i64 0, .int .i64 0] 28)).drew).heap[w3.heap.size]? = some (.cells #[.bool false, .bool false, .bool false, .int .i64 0, .int .i64 0] 28 (0, 0)) := blk_new w3 #[.bool false, .bool false, .bool false, .int .i64 0, .int .i64 0] 28
  have HQ3 := Lib.hid hQ3
  clear hQ3
  go_region_held3 (fun W => W.cell? ⟨gl, 5, none⟩ = some (.int .i64 x5)) (first | (with_reducible exact cell5 k5t hgl3 _ _ _ _ _) | (with_reducible exact k5) | (with_reducible exact celld k5) | (with_reducible exact cell_al k5) | (with_reducible exact celld (cell_al k5)) | (with_reducible exact cell_al (celld k5)) | (with_reducible exact k5t) | (with_reducible exact cell_al k5t)) (first | (go_at_call 19; (first | refine (T5 _ (Below.refl _ _)).mono ?_ | refine (T5 _ (Below.refl _ _).drew).mono ?_ | refine (T5 _ (below_new _ _)).mono ?_ | refine (T5 _ (below_new _ _).drew).mono ?_ | refine (T5 _ ((Below.refl _ _).drew.alloc (Nat.le_refl _) _)).mono ?_); rintro e wt ⟨rfl, ht, kt⟩; (first | (have k5t : wt.cell? ⟨gl, 5, none⟩ = some (.int .i64 x5) := cell_kept k5 kt.kept hglc) | (have k5t : wt.cell? ⟨gl, 5, none⟩ = some (.int .i64 x5) := cell_kept (cell_al k5) kt.kept hglc; have hq5 := kp_blk HQ3.out kt hg3; have z0 := (blk_cell hq5 0).trans (show _ = some (.bool false) from rfl); have f0 := blk_frozen hq5 0; have z1 := (blk_cell hq5 1).trans (show _ = some (.bool false) from rfl); have f1 := blk_frozen hq5 1; have z2 := (blk_cell hq5 2).trans (show _ = some (.bool false) from rfl); have f2 := blk_frozen hq5 2; have z3 := (blk_cell hq5 3).trans (show _ = some (.int .i64 0) from rfl); have f3 := blk_frozen hq5 3; have z4 := (blk_cell hq5 4).trans (show _ = some (.int .i64 0) from rfl); have f4 := blk_frozen hq5 4;  have HQ5 := Lib.hid hq5; clear hq5))))
  focus
    -- the call first, the box behind it
    have hks : w3.heap.size ≤ wt.heap.size := kt.kept.1
    have kA := ((Kp.refl w3 (fun k => k = gc)).drew.then_ kt (fun _ h => .inl h)).below (below_new wt (.cells #[.bool false, .bool false, .bool false, .int .i64 x5, .int .i64 (256 * x6 + x7)] 28))
    have hls : gl < w3.heap.size := World.block_lt_of_cell? _ _ k5
    have hcs := blk_lt HCU3.out
    have hzs := blk_lt HZ3.out
    have F : Fct w l a c g0 gc gl wt.heap.size x0 x1 x2 x3 x4 x5 (256 * x6 + x7) false false false (wt.alloc (.cells #[.bool false, .bool false, .bool false, .int .i64 x5, .int .i64 (256 * x6 + x7)] 28)) := ⟨blk_new wt #[.bool false, .bool false, .bool false, .int .i64 x5, .int .i64 (256 * x6 + x7)] 28, blk_bel ht (below_new wt (.cells #[.bool false, .bool false, .bool false, .int .i64 x5, .int .i64 (256 * x6 + x7)] 28)), kp_blk HZ3.out kA (by omega), C_kp HC3.out kA hac, HB3.out.trans (kA.to HB3.out.size (fun k hk => by rw [hk]; exact HSG.out)), fun i hi => cell_kept (HCL.out i hi) kA.kept hglc, by omega, by omega, by omega, by have := hal.out; omega, by have := HSG.out; omega, hglc, hac, by omega, HSG.out⟩
    obtain ⟨gx, hgx⟩ : ∃ g, wt.heap.size = g := ⟨_, rfl⟩
    rw [hgx] at F
    simp only [hgx]
    generalize wt.alloc (.cells #[.bool false, .bool false, .bool false, .int .i64 x5, .int .i64 (256 * x6 + x7)] 28) = wv at F ⊢
    have HF := Lib.hid F
    clear F ht kt k5t hks kA hls hcs hzs T5 k5 HQ3 hg3 hgl3 hgx HCL HC3 HZ3 HCU3 HB3 HO3
  rotate_left
  focus
    -- the box first, the call behind it
    have hks : w3.heap.size ≤ wt.heap.size := Nat.le_trans (size_new w3 (.cells #[.bool false, .bool false, .bool false, .int .i64 0, .int .i64 0] 28)) kt.kept.1
    have kB0 := ((Kp.refl w3 (fun k => k = gc)).below (below_new w3 (.cells #[.bool false, .bool false, .bool false, .int .i64 0, .int .i64 0] 28))).drew.then_ kt (fun _ h => .inl h)
    have kB := ((((kB0.setCell (p := ⟨w3.heap.size, 0, none⟩) (.inr (Nat.le_refl _)) (.bool false)).setCell (p := ⟨w3.heap.size, 1, none⟩) (.inr (Nat.le_refl _)) (.bool false)).setCell (p := ⟨w3.heap.size, 2, none⟩) (.inr (Nat.le_refl _)) (.bool false)).setCell (p := ⟨w3.heap.size, 3, none⟩) (.inr (Nat.le_refl _)) (.int .i64 x5)).setCell (p := ⟨w3.heap.size, 4, none⟩) (.inr (Nat.le_refl _)) (.int .i64 (256 * x6 + x7))
    have hls : gl < w3.heap.size := World.block_lt_of_cell? _ _ k5
    have hcs := blk_lt HCU3.out
    have hzs := blk_lt HZ3.out
    have F : Fct w l a c g0 gc gl w3.heap.size x0 x1 x2 x3 x4 x5 (256 * x6 + x7) false false false _ := ⟨(blk_put (cs' := #[.bool false, .bool false, .bool false, .int .i64 x5, .int .i64 (256 * x6 + x7)]) (blk_put (cs' := #[.bool false, .bool false, .bool false, .int .i64 x5, .int .i64 0]) (blk_put (cs' := #[.bool false, .bool false, .bool false, .int .i64 0, .int .i64 0]) (blk_put (cs' := #[.bool false, .bool false, .bool false, .int .i64 0, .int .i64 0]) (blk_put (cs' := #[.bool false, .bool false, .bool false, .int .i64 0, .int .i64 0]) (HQ5.out) 0 _ rfl) 1 _ rfl) 2 _ rfl) 3 _ rfl) 4 _ rfl), blk5 ht hg3.symm (.bool false) (.bool false) (.bool false) (.int .i64 x5) (.int .i64 (256 * x6 + x7)), kp_blk HZ3.out kB (by omega), C_kp HC3.out kB hac, HB3.out.trans (kB.to HB3.out.size (fun k hk => by rw [hk]; exact HSG.out)), fun i hi => cell_kept (HCL.out i hi) kB.kept hglc, by omega, by omega, by omega, by have := hal.out; omega, by have := HSG.out; omega, hglc, hac, by omega, HSG.out⟩
    obtain ⟨gx, hgx⟩ : ∃ g, w3.heap.size = g := ⟨_, rfl⟩
    clear kB kB0 HQ5 z0 f0 z1 f1 z2 f2 z3 f3 z4 f4
    rw [hgx] at F
    simp only [hgx]
    generalize (((((wt.setCell ⟨gx, 0, none⟩ (.bool false)).setCell ⟨gx, 1, none⟩ (.bool false)).setCell ⟨gx, 2, none⟩ (.bool false)).setCell ⟨gx, 3, none⟩ (.int .i64 x5)).setCell ⟨gx, 4, none⟩ (.int .i64 (256 * x6 + x7))) = wv at F ⊢
    have HF := Lib.hid F
    clear F ht kt k5t hks hls hcs hzs T5 k5 HQ3 hg3 hgl3 hgx HCL HC3 HZ3 HCU3 HB3 HO3
  all_goals (
    have k4 : wv.cell? ⟨gl, 4, none⟩ = some (.int .i64 x4) := HF.out.kc 4 (by decide)
    have s0 := (blk_cell HF.out.hq 0).trans (show _ = some (.bool false) from rfl)
    have f0 := blk_frozen HF.out.hq 0
    have s1 := (blk_cell HF.out.hq 1).trans (show _ = some (.bool false) from rfl)
    have f1 := blk_frozen HF.out.hq 1
    have s2 := (blk_cell HF.out.hq 2).trans (show _ = some (.bool false) from rfl)
    have f2 := blk_frozen HF.out.hq 2
    go_upto_region 8 with (fail)
    have hx4 := HX4.out
    rw [and128 x4 hx4.1 hx4.2, and64 x4 hx4.1 hx4.2, and32 x4 hx4.1 hx4.2]
    have HG8 := Lib.hid (HF.out.set (x4 / 128 == 1) (x4 / 64 % 2 == 1) (x4 / 32 % 2 == 1))
    clear HF k4 s0 f0 s1 f1 s2 f2
    generalize (((wv.setCell ⟨gx, 0, none⟩ (.bool (x4 / 128 == 1))).setCell ⟨gx, 1, none⟩ (.bool (x4 / 64 % 2 == 1))).setCell ⟨gx, 2, none⟩ (.bool (x4 / 32 % 2 == 1))) = wx at HG8 ⊢
    have k0 : wx.cell? ⟨gl, 0, none⟩ = some (.int .i64 x0) := HG8.out.kc 0 (by decide)
    have k1 : wx.cell? ⟨gl, 1, none⟩ = some (.int .i64 x1) := HG8.out.kc 1 (by decide)
    have k2 : wx.cell? ⟨gl, 2, none⟩ = some (.int .i64 x2) := HG8.out.kc 2 (by decide)
    have k3 : wx.cell? ⟨gl, 3, none⟩ = some (.int .i64 x3) := HG8.out.kc 3 (by decide)
    have b1 : (x1 != 0) = true := by simpa using h1
    clear h1
    have z0 := (blk_cell HG8.out.hz 0).trans (show _ = some (.bool false) from rfl)
    have f0 := blk_frozen HG8.out.hz 0
    have z1 := (blk_cell HG8.out.hz 1).trans (show _ = some (.bool false) from rfl)
    have f1 := blk_frozen HG8.out.hz 1
    have z2 := (blk_cell HG8.out.hz 2).trans (show _ = some (.bool false) from rfl)
    have f2 := blk_frozen HG8.out.hz 2
    have z3 := (blk_cell HG8.out.hz 3).trans (show _ = some (.int .i64 0) from rfl)
    have f3 := blk_frozen HG8.out.hz 3
    have z4 := (blk_cell HG8.out.hz 4).trans (show _ = some (.int .i64 0) from rfl)
    have f4 := blk_frozen HG8.out.hz 4
    go_wp2_with fail
    refine bodyPost_ret (results_list (rs := [.tmp 2, .cell 3 28, .tmp 4, .tmp 5]) rfl (by simp) (.tmp (.cell g0 28 #[.bool false, .bool false, .bool false, .int .i64 0, .int .i64 0] (0, 0) _ rfl (blk_put (cs' := #[.bool false, .bool false, .bool false, .int .i64 0, .int .i64 0]) (blk_put (cs' := #[.bool false, .bool false, .bool false, .int .i64 0, .int .i64 0]) (blk_put (cs' := #[.bool false, .bool false, .bool false, .int .i64 0, .int .i64 0]) (blk_put (cs' := #[.bool false, .bool false, .bool false, .int .i64 0, .int .i64 0]) (blk_put (cs' := #[.bool false, .bool false, .bool false, .int .i64 0, .int .i64 0]) (HG8.out.hz) 0 _ rfl) 1 _ rfl) 2 _ rfl) 3 _ rfl) 4 _ rfl) Try.underlying28 rfl (by kernel_rfl) (.tmp (.tmp .nil))))) rfl ?_
    exact ⟨rfl, ((((HG8.out.hb.setCell (p := ⟨g0, 0, none⟩) hgle _).setCell (p := ⟨g0, 1, none⟩) hgle _).setCell (p := ⟨g0, 2, none⟩) hgle _).setCell (p := ⟨g0, 3, none⟩) hgle _).setCell (p := ⟨g0, 4, none⟩) hgle _⟩)
set_option maxHeartbeats 4000000 in
theorem dec_kind2 (A : Option Addr) (c : Nat) (l : List Int) (x0 x1 x2 x3 x4 x5 x6 x7 : Int) (rest : List Int) (hx : l = [x0, x1, x2, x3, x4, x5, x6, x7] ++ rest) (w : World) (h : Kd.C (Kd.int .u8) w A l.length l) (hc : l.length ≤ c) (hc2 : c ≤ 9223372036854775807) (hl3 : l.length ≤ 1000000000) (hb : ∀ x ∈ l, 0 ≤ x ∧ x ≤ 255) (h1 : x1 = 0) (h2 : x2 ≠ 99) :
    Calls Try.prog 6 #[.slice A l.length c] w fun e w' => e = .returned (.tuple #[.int .i64 0, .agg #[.bool false, .bool false, .bool false, .int .i64 0, .int .i64 0], .slice none 0 0, .int .i64 6]) ∧ Below w.heap.size w w' := by
  have hl : 8 ≤ l.length := by rw [hx]; simp
  obtain ⟨a, rfl⟩ : ∃ a, A = some a := by
    cases A with
    | some a => exact ⟨a, rfl⟩
    | none => obtain ⟨ad, he, _⟩ := h.2.2 (by omega); cases he
  have HX := Lib.hid hx
  have HBy := Lib.hid hb
  have hm6 : manyF l 0 1 6 = [x0, x1, x2, x3, x4, x5] := by rw [hx]; exact many6 x0 x1 x2 x3 x4 x5 x6 x7 rest
  have HM6 := Lib.hid hm6
  have HX4 := Lib.hid (hb x4 (by rw [hx]; simp))
  have HT2 := Lib.hid (show joinF ((l.drop 6).take 2) = 256 * x6 + x7 by rw [hx]; exact take2 x0 x1 x2 x3 x4 x5 x6 x7 rest)
  have HC := Lib.hid h
  have hal := Lib.hid (C_lt8 h (by omega))
  clear h hb hx hm6
  go_enter Try.func6, Try.ntmps6
  go_upto_region 1 with (fail)
  have HZ := Lib.hid (blk_new w #[.bool false, .bool false, .bool false, .int .i64 0, .int .i64 0] 28)
  have HBa := Lib.hid (below_new w (.cells #[.bool false, .bool false, .bool false, .int .i64 0, .int .i64 0] 28))
  have HCa := Lib.hid (Kd.C_below HC.out (below_new w (.cells #[.bool false, .bool false, .bool false, .int .i64 0, .int .i64 0] 28)))
  (obtain ⟨g0, hg0⟩ : ∃ g, w.heap.size = g := ⟨_, rfl⟩)
  rw [hg0] at HZ
  have HG := Lib.hid hg0
  simp only [hg0]
  generalize w.alloc (.cells #[.bool false, .bool false, .bool false, .int .i64 0, .int .i64 0] 28) = wa at HZ HBa HCa ⊢
  clear HC hg0
  have z0 := (blk_cell HZ.out 0).trans (show _ = some (.bool false) from rfl)
  have f0 := blk_frozen HZ.out 0
  have z1 := (blk_cell HZ.out 1).trans (show _ = some (.bool false) from rfl)
  have f1 := blk_frozen HZ.out 1
  have z2 := (blk_cell HZ.out 2).trans (show _ = some (.bool false) from rfl)
  have f2 := blk_frozen HZ.out 2
  have z3 := (blk_cell HZ.out 3).trans (show _ = some (.int .i64 0) from rfl)
  have f3 := blk_frozen HZ.out 3
  have z4 := (blk_cell HZ.out 4).trans (show _ = some (.int .i64 0) from rfl)
  have f4 := blk_frozen HZ.out 4
  have hgle : w.heap.size ≤ g0 := by rw [HG.out]; exact Nat.le_refl _
  go_wp2_with fail
  refine (over_any (some a) l.length c _).mono ?_
  rintro e w2 ⟨rfl, hcu, hb2⟩
  (obtain ⟨gc, hgc⟩ : ∃ g, wa.heap.size = g := ⟨_, rfl⟩)
  rw [hgc] at hcu
  simp only [hgc]
  have HCU := Lib.hid hcu
  have HZ2 := Lib.hid (blk_bel HZ.out hb2)
  have HC2 := Lib.hid (Kd.C_below HCa.out hb2)
  have HB2 := Lib.hid (bel HBa.out hb2)
  have hgz : g0 < gc := by rw [← hgc]; exact blk_lt HZ.out
  have hac : a.block ≠ gc := by have := hal.out; rw [HG.out] at this; omega
  have HSG := Lib.hid (show w.heap.size ≤ gc by omega)
  clear hcu hb2 hgc HZ HCa HBa z0 f0 z1 f1 z2 f2 z3 f3 z4 f4
  go_wp2_with fail
  refine (many_ok gc (some a) c l 0 1 6 6 256 rfl (by omega) (by decide) (by decide) w2 HCU.out (fun w' hk => C_kp HC2.out hk hac) HBy.out hc hc2 (by omega) hl3).mono ?_
  rintro e w3 ⟨⟨v7, rfl, ho⟩, h3, k3⟩
  rw [HM6.out] at ho
  obtain ⟨gl, c7, rfl, hc7, hglb, hcl⟩ := own_cells ho (by decide)
  have HO3 := Lib.hid ho
  have HCU3 := Lib.hid h3
  have HZ3 := Lib.hid (kp_blk HZ2.out k3 (by omega))
  have HC3 := Lib.hid (C_kp HC2.out k3 hac)
  have HB3 := Lib.hid (HB2.out.trans (k3.to HB2.out.size (fun k hk => by rw [hk]; exact HSG.out)))
  have k5 : w3.cell? ⟨gl, 5, none⟩ = some (.int .i64 x5) := hcl 5 (by decide)
  have HGL := Lib.hid (show gc < gl by have := blk_lt HCU.out; omega)
  have HCL := Lib.hid hcl
  clear ho h3 k3 hcl HCU HZ2 HC2 HB2
  go_wp2_with fail
  have hglc : gl ≠ gc := by have := HGL.out; omega
  have T5 : ∀ W, Below w3.heap.size w3 W → Calls Try.prog 19 #[.pointer (some ⟨gc, 0, none⟩), .int .i64 2] W fun e w' => e = .returned (.int .i64 (256 * x6 + x7)) ∧ Cu w' gc (some a) l.length c 8 0 ∧ Kp W w' (fun k => k = gc) := fun W hW => take_ok gc a c l 6 2 8 (256 * x6 + x7) 65536 HT2.out rfl (by decide) (by decide) (by decide) W (blk_bel HCU3.out hW) (Kd.C_below HC3.out hW) HBy.out (fun w' hk => C_kp (Kd.C_below HC3.out hW) hk hac) hc hc2 (by omega)
  have hg3 : w3.heap.size ≠ gc := by have := blk_lt HCU3.out; omega
  have hgl3 : gl ≠ w3.heap.size := by have hh : gl < w3.heap.size := World.block_lt_of_cell? _ _ k5; omega
  have hQ3 : ((w3.alloc (.cells #[.bool false, .bool false, .bool false, .int .i64 0, .int .i64 0] 28)).drew).heap[w3.heap.size]? = some (.cells #[.bool false, .bool false, .bool false, .int .i64 0, .int .i64 0] 28 (0, 0)) := blk_new w3 #[.bool false, .bool false, .bool false, .int .i64 0, .int .i64 0] 28
  have HQ3 := Lib.hid hQ3
  clear hQ3
  go_region_held3 (fun W => W.cell? ⟨gl, 5, none⟩ = some (.int .i64 x5)) (first | (with_reducible exact cell5 k5t hgl3 _ _ _ _ _) | (with_reducible exact k5) | (with_reducible exact celld k5) | (with_reducible exact cell_al k5) | (with_reducible exact celld (cell_al k5)) | (with_reducible exact cell_al (celld k5)) | (with_reducible exact k5t) | (with_reducible exact cell_al k5t)) (first | (go_at_call 19; (first | refine (T5 _ (Below.refl _ _)).mono ?_ | refine (T5 _ (Below.refl _ _).drew).mono ?_ | refine (T5 _ (below_new _ _)).mono ?_ | refine (T5 _ (below_new _ _).drew).mono ?_ | refine (T5 _ ((Below.refl _ _).drew.alloc (Nat.le_refl _) _)).mono ?_); rintro e wt ⟨rfl, ht, kt⟩; (first | (have k5t : wt.cell? ⟨gl, 5, none⟩ = some (.int .i64 x5) := cell_kept k5 kt.kept hglc) | (have k5t : wt.cell? ⟨gl, 5, none⟩ = some (.int .i64 x5) := cell_kept (cell_al k5) kt.kept hglc; have hq5 := kp_blk HQ3.out kt hg3; have z0 := (blk_cell hq5 0).trans (show _ = some (.bool false) from rfl); have f0 := blk_frozen hq5 0; have z1 := (blk_cell hq5 1).trans (show _ = some (.bool false) from rfl); have f1 := blk_frozen hq5 1; have z2 := (blk_cell hq5 2).trans (show _ = some (.bool false) from rfl); have f2 := blk_frozen hq5 2; have z3 := (blk_cell hq5 3).trans (show _ = some (.int .i64 0) from rfl); have f3 := blk_frozen hq5 3; have z4 := (blk_cell hq5 4).trans (show _ = some (.int .i64 0) from rfl); have f4 := blk_frozen hq5 4;  have HQ5 := Lib.hid hq5; clear hq5))))
  focus
    -- the call first, the box behind it
    have hks : w3.heap.size ≤ wt.heap.size := kt.kept.1
    have kA := ((Kp.refl w3 (fun k => k = gc)).drew.then_ kt (fun _ h => .inl h)).below (below_new wt (.cells #[.bool false, .bool false, .bool false, .int .i64 x5, .int .i64 (256 * x6 + x7)] 28))
    have hls : gl < w3.heap.size := World.block_lt_of_cell? _ _ k5
    have hcs := blk_lt HCU3.out
    have hzs := blk_lt HZ3.out
    have F : Fct w l a c g0 gc gl wt.heap.size x0 x1 x2 x3 x4 x5 (256 * x6 + x7) false false false (wt.alloc (.cells #[.bool false, .bool false, .bool false, .int .i64 x5, .int .i64 (256 * x6 + x7)] 28)) := ⟨blk_new wt #[.bool false, .bool false, .bool false, .int .i64 x5, .int .i64 (256 * x6 + x7)] 28, blk_bel ht (below_new wt (.cells #[.bool false, .bool false, .bool false, .int .i64 x5, .int .i64 (256 * x6 + x7)] 28)), kp_blk HZ3.out kA (by omega), C_kp HC3.out kA hac, HB3.out.trans (kA.to HB3.out.size (fun k hk => by rw [hk]; exact HSG.out)), fun i hi => cell_kept (HCL.out i hi) kA.kept hglc, by omega, by omega, by omega, by have := hal.out; omega, by have := HSG.out; omega, hglc, hac, by omega, HSG.out⟩
    obtain ⟨gx, hgx⟩ : ∃ g, wt.heap.size = g := ⟨_, rfl⟩
    rw [hgx] at F
    simp only [hgx]
    generalize wt.alloc (.cells #[.bool false, .bool false, .bool false, .int .i64 x5, .int .i64 (256 * x6 + x7)] 28) = wv at F ⊢
    have HF := Lib.hid F
    clear F ht kt k5t hks kA hls hcs hzs T5 k5 HQ3 hg3 hgl3 hgx HCL HC3 HZ3 HCU3 HB3 HO3
  rotate_left
  focus
    -- the box first, the call behind it
    have hks : w3.heap.size ≤ wt.heap.size := Nat.le_trans (size_new w3 (.cells #[.bool false, .bool false, .bool false, .int .i64 0, .int .i64 0] 28)) kt.kept.1
    have kB0 := ((Kp.refl w3 (fun k => k = gc)).below (below_new w3 (.cells #[.bool false, .bool false, .bool false, .int .i64 0, .int .i64 0] 28))).drew.then_ kt (fun _ h => .inl h)
    have kB := ((((kB0.setCell (p := ⟨w3.heap.size, 0, none⟩) (.inr (Nat.le_refl _)) (.bool false)).setCell (p := ⟨w3.heap.size, 1, none⟩) (.inr (Nat.le_refl _)) (.bool false)).setCell (p := ⟨w3.heap.size, 2, none⟩) (.inr (Nat.le_refl _)) (.bool false)).setCell (p := ⟨w3.heap.size, 3, none⟩) (.inr (Nat.le_refl _)) (.int .i64 x5)).setCell (p := ⟨w3.heap.size, 4, none⟩) (.inr (Nat.le_refl _)) (.int .i64 (256 * x6 + x7))
    have hls : gl < w3.heap.size := World.block_lt_of_cell? _ _ k5
    have hcs := blk_lt HCU3.out
    have hzs := blk_lt HZ3.out
    have F : Fct w l a c g0 gc gl w3.heap.size x0 x1 x2 x3 x4 x5 (256 * x6 + x7) false false false _ := ⟨(blk_put (cs' := #[.bool false, .bool false, .bool false, .int .i64 x5, .int .i64 (256 * x6 + x7)]) (blk_put (cs' := #[.bool false, .bool false, .bool false, .int .i64 x5, .int .i64 0]) (blk_put (cs' := #[.bool false, .bool false, .bool false, .int .i64 0, .int .i64 0]) (blk_put (cs' := #[.bool false, .bool false, .bool false, .int .i64 0, .int .i64 0]) (blk_put (cs' := #[.bool false, .bool false, .bool false, .int .i64 0, .int .i64 0]) (HQ5.out) 0 _ rfl) 1 _ rfl) 2 _ rfl) 3 _ rfl) 4 _ rfl), blk5 ht hg3.symm (.bool false) (.bool false) (.bool false) (.int .i64 x5) (.int .i64 (256 * x6 + x7)), kp_blk HZ3.out kB (by omega), C_kp HC3.out kB hac, HB3.out.trans (kB.to HB3.out.size (fun k hk => by rw [hk]; exact HSG.out)), fun i hi => cell_kept (HCL.out i hi) kB.kept hglc, by omega, by omega, by omega, by have := hal.out; omega, by have := HSG.out; omega, hglc, hac, by omega, HSG.out⟩
    obtain ⟨gx, hgx⟩ : ∃ g, w3.heap.size = g := ⟨_, rfl⟩
    clear kB kB0 HQ5 z0 f0 z1 f1 z2 f2 z3 f3 z4 f4
    rw [hgx] at F
    simp only [hgx]
    generalize (((((wt.setCell ⟨gx, 0, none⟩ (.bool false)).setCell ⟨gx, 1, none⟩ (.bool false)).setCell ⟨gx, 2, none⟩ (.bool false)).setCell ⟨gx, 3, none⟩ (.int .i64 x5)).setCell ⟨gx, 4, none⟩ (.int .i64 (256 * x6 + x7))) = wv at F ⊢
    have HF := Lib.hid F
    clear F ht kt k5t hks hls hcs hzs T5 k5 HQ3 hg3 hgl3 hgx HCL HC3 HZ3 HCU3 HB3 HO3
  all_goals (
    have k4 : wv.cell? ⟨gl, 4, none⟩ = some (.int .i64 x4) := HF.out.kc 4 (by decide)
    have s0 := (blk_cell HF.out.hq 0).trans (show _ = some (.bool false) from rfl)
    have f0 := blk_frozen HF.out.hq 0
    have s1 := (blk_cell HF.out.hq 1).trans (show _ = some (.bool false) from rfl)
    have f1 := blk_frozen HF.out.hq 1
    have s2 := (blk_cell HF.out.hq 2).trans (show _ = some (.bool false) from rfl)
    have f2 := blk_frozen HF.out.hq 2
    go_upto_region 8 with (fail)
    have hx4 := HX4.out
    rw [and128 x4 hx4.1 hx4.2, and64 x4 hx4.1 hx4.2, and32 x4 hx4.1 hx4.2]
    have HG8 := Lib.hid (HF.out.set (x4 / 128 == 1) (x4 / 64 % 2 == 1) (x4 / 32 % 2 == 1))
    clear HF k4 s0 f0 s1 f1 s2 f2
    generalize (((wv.setCell ⟨gx, 0, none⟩ (.bool (x4 / 128 == 1))).setCell ⟨gx, 1, none⟩ (.bool (x4 / 64 % 2 == 1))).setCell ⟨gx, 2, none⟩ (.bool (x4 / 32 % 2 == 1))) = wx at HG8 ⊢
    have k0 : wx.cell? ⟨gl, 0, none⟩ = some (.int .i64 x0) := HG8.out.kc 0 (by decide)
    have k1 : wx.cell? ⟨gl, 1, none⟩ = some (.int .i64 x1) := HG8.out.kc 1 (by decide)
    have k2 : wx.cell? ⟨gl, 2, none⟩ = some (.int .i64 x2) := HG8.out.kc 2 (by decide)
    have k3 : wx.cell? ⟨gl, 3, none⟩ = some (.int .i64 x3) := HG8.out.kc 3 (by decide)
    have b1 : (x1 != 0) = false := by rw [h1]; decide
    have b2 : (x2 != 99) = true := by simpa using h2
    clear h1 h2
    have z0 := (blk_cell HG8.out.hz 0).trans (show _ = some (.bool false) from rfl)
    have f0 := blk_frozen HG8.out.hz 0
    have z1 := (blk_cell HG8.out.hz 1).trans (show _ = some (.bool false) from rfl)
    have f1 := blk_frozen HG8.out.hz 1
    have z2 := (blk_cell HG8.out.hz 2).trans (show _ = some (.bool false) from rfl)
    have f2 := blk_frozen HG8.out.hz 2
    have z3 := (blk_cell HG8.out.hz 3).trans (show _ = some (.int .i64 0) from rfl)
    have f3 := blk_frozen HG8.out.hz 3
    have z4 := (blk_cell HG8.out.hz 4).trans (show _ = some (.int .i64 0) from rfl)
    have f4 := blk_frozen HG8.out.hz 4
    go_wp2_with fail
    refine bodyPost_ret (results_list (rs := [.tmp 2, .cell 3 28, .tmp 4, .tmp 5]) rfl (by simp) (.tmp (.cell g0 28 #[.bool false, .bool false, .bool false, .int .i64 0, .int .i64 0] (0, 0) _ rfl (blk_put (cs' := #[.bool false, .bool false, .bool false, .int .i64 0, .int .i64 0]) (blk_put (cs' := #[.bool false, .bool false, .bool false, .int .i64 0, .int .i64 0]) (blk_put (cs' := #[.bool false, .bool false, .bool false, .int .i64 0, .int .i64 0]) (blk_put (cs' := #[.bool false, .bool false, .bool false, .int .i64 0, .int .i64 0]) (blk_put (cs' := #[.bool false, .bool false, .bool false, .int .i64 0, .int .i64 0]) (HG8.out.hz) 0 _ rfl) 1 _ rfl) 2 _ rfl) 3 _ rfl) 4 _ rfl) Try.underlying28 rfl (by kernel_rfl) (.tmp (.tmp .nil))))) rfl ?_
    exact ⟨rfl, ((((HG8.out.hb.setCell (p := ⟨g0, 0, none⟩) hgle _).setCell (p := ⟨g0, 1, none⟩) hgle _).setCell (p := ⟨g0, 2, none⟩) hgle _).setCell (p := ⟨g0, 3, none⟩) hgle _).setCell (p := ⟨g0, 4, none⟩) hgle _⟩)
set_option maxHeartbeats 4000000 in
theorem dec_kind3 (A : Option Addr) (c : Nat) (l : List Int) (x0 x1 x2 x3 x4 x5 x6 x7 : Int) (rest : List Int) (hx : l = [x0, x1, x2, x3, x4, x5, x6, x7] ++ rest) (w : World) (h : Kd.C (Kd.int .u8) w A l.length l) (hc : l.length ≤ c) (hc2 : c ≤ 9223372036854775807) (hl3 : l.length ≤ 1000000000) (hb : ∀ x ∈ l, 0 ≤ x ∧ x ≤ 255) (h1 : x1 = 0) (h2 : x2 = 99) (h3 : x3 ≠ 4) :
    Calls Try.prog 6 #[.slice A l.length c] w fun e w' => e = .returned (.tuple #[.int .i64 0, .agg #[.bool false, .bool false, .bool false, .int .i64 0, .int .i64 0], .slice none 0 0, .int .i64 6]) ∧ Below w.heap.size w w' := by
  have hl : 8 ≤ l.length := by rw [hx]; simp
  obtain ⟨a, rfl⟩ : ∃ a, A = some a := by
    cases A with
    | some a => exact ⟨a, rfl⟩
    | none => obtain ⟨ad, he, _⟩ := h.2.2 (by omega); cases he
  have HX := Lib.hid hx
  have HBy := Lib.hid hb
  have hm6 : manyF l 0 1 6 = [x0, x1, x2, x3, x4, x5] := by rw [hx]; exact many6 x0 x1 x2 x3 x4 x5 x6 x7 rest
  have HM6 := Lib.hid hm6
  have HX4 := Lib.hid (hb x4 (by rw [hx]; simp))
  have HT2 := Lib.hid (show joinF ((l.drop 6).take 2) = 256 * x6 + x7 by rw [hx]; exact take2 x0 x1 x2 x3 x4 x5 x6 x7 rest)
  have HC := Lib.hid h
  have hal := Lib.hid (C_lt8 h (by omega))
  clear h hb hx hm6
  go_enter Try.func6, Try.ntmps6
  go_upto_region 1 with (fail)
  have HZ := Lib.hid (blk_new w #[.bool false, .bool false, .bool false, .int .i64 0, .int .i64 0] 28)
  have HBa := Lib.hid (below_new w (.cells #[.bool false, .bool false, .bool false, .int .i64 0, .int .i64 0] 28))
  have HCa := Lib.hid (Kd.C_below HC.out (below_new w (.cells #[.bool false, .bool false, .bool false, .int .i64 0, .int .i64 0] 28)))
  (obtain ⟨g0, hg0⟩ : ∃ g, w.heap.size = g := ⟨_, rfl⟩)
  rw [hg0] at HZ
  have HG := Lib.hid hg0
  simp only [hg0]
  generalize w.alloc (.cells #[.bool false, .bool false, .bool false, .int .i64 0, .int .i64 0] 28) = wa at HZ HBa HCa ⊢
  clear HC hg0
  have z0 := (blk_cell HZ.out 0).trans (show _ = some (.bool false) from rfl)
  have f0 := blk_frozen HZ.out 0
  have z1 := (blk_cell HZ.out 1).trans (show _ = some (.bool false) from rfl)
  have f1 := blk_frozen HZ.out 1
  have z2 := (blk_cell HZ.out 2).trans (show _ = some (.bool false) from rfl)
  have f2 := blk_frozen HZ.out 2
  have z3 := (blk_cell HZ.out 3).trans (show _ = some (.int .i64 0) from rfl)
  have f3 := blk_frozen HZ.out 3
  have z4 := (blk_cell HZ.out 4).trans (show _ = some (.int .i64 0) from rfl)
  have f4 := blk_frozen HZ.out 4
  have hgle : w.heap.size ≤ g0 := by rw [HG.out]; exact Nat.le_refl _
  go_wp2_with fail
  refine (over_any (some a) l.length c _).mono ?_
  rintro e w2 ⟨rfl, hcu, hb2⟩
  (obtain ⟨gc, hgc⟩ : ∃ g, wa.heap.size = g := ⟨_, rfl⟩)
  rw [hgc] at hcu
  simp only [hgc]
  have HCU := Lib.hid hcu
  have HZ2 := Lib.hid (blk_bel HZ.out hb2)
  have HC2 := Lib.hid (Kd.C_below HCa.out hb2)
  have HB2 := Lib.hid (bel HBa.out hb2)
  have hgz : g0 < gc := by rw [← hgc]; exact blk_lt HZ.out
  have hac : a.block ≠ gc := by have := hal.out; rw [HG.out] at this; omega
  have HSG := Lib.hid (show w.heap.size ≤ gc by omega)
  clear hcu hb2 hgc HZ HCa HBa z0 f0 z1 f1 z2 f2 z3 f3 z4 f4
  go_wp2_with fail
  refine (many_ok gc (some a) c l 0 1 6 6 256 rfl (by omega) (by decide) (by decide) w2 HCU.out (fun w' hk => C_kp HC2.out hk hac) HBy.out hc hc2 (by omega) hl3).mono ?_
  rintro e w3 ⟨⟨v7, rfl, ho⟩, h3, k3⟩
  rw [HM6.out] at ho
  obtain ⟨gl, c7, rfl, hc7, hglb, hcl⟩ := own_cells ho (by decide)
  have HO3 := Lib.hid ho
  have HCU3 := Lib.hid h3
  have HZ3 := Lib.hid (kp_blk HZ2.out k3 (by omega))
  have HC3 := Lib.hid (C_kp HC2.out k3 hac)
  have HB3 := Lib.hid (HB2.out.trans (k3.to HB2.out.size (fun k hk => by rw [hk]; exact HSG.out)))
  have k5 : w3.cell? ⟨gl, 5, none⟩ = some (.int .i64 x5) := hcl 5 (by decide)
  have HGL := Lib.hid (show gc < gl by have := blk_lt HCU.out; omega)
  have HCL := Lib.hid hcl
  clear ho h3 k3 hcl HCU HZ2 HC2 HB2
  go_wp2_with fail
  have hglc : gl ≠ gc := by have := HGL.out; omega
  have T5 : ∀ W, Below w3.heap.size w3 W → Calls Try.prog 19 #[.pointer (some ⟨gc, 0, none⟩), .int .i64 2] W fun e w' => e = .returned (.int .i64 (256 * x6 + x7)) ∧ Cu w' gc (some a) l.length c 8 0 ∧ Kp W w' (fun k => k = gc) := fun W hW => take_ok gc a c l 6 2 8 (256 * x6 + x7) 65536 HT2.out rfl (by decide) (by decide) (by decide) W (blk_bel HCU3.out hW) (Kd.C_below HC3.out hW) HBy.out (fun w' hk => C_kp (Kd.C_below HC3.out hW) hk hac) hc hc2 (by omega)
  have hg3 : w3.heap.size ≠ gc := by have := blk_lt HCU3.out; omega
  have hgl3 : gl ≠ w3.heap.size := by have hh : gl < w3.heap.size := World.block_lt_of_cell? _ _ k5; omega
  have hQ3 : ((w3.alloc (.cells #[.bool false, .bool false, .bool false, .int .i64 0, .int .i64 0] 28)).drew).heap[w3.heap.size]? = some (.cells #[.bool false, .bool false, .bool false, .int .i64 0, .int .i64 0] 28 (0, 0)) := blk_new w3 #[.bool false, .bool false, .bool false, .int .i64 0, .int .i64 0] 28
  have HQ3 := Lib.hid hQ3
  clear hQ3
  go_region_held3 (fun W => W.cell? ⟨gl, 5, none⟩ = some (.int .i64 x5)) (first | (with_reducible exact cell5 k5t hgl3 _ _ _ _ _) | (with_reducible exact k5) | (with_reducible exact celld k5) | (with_reducible exact cell_al k5) | (with_reducible exact celld (cell_al k5)) | (with_reducible exact cell_al (celld k5)) | (with_reducible exact k5t) | (with_reducible exact cell_al k5t)) (first | (go_at_call 19; (first | refine (T5 _ (Below.refl _ _)).mono ?_ | refine (T5 _ (Below.refl _ _).drew).mono ?_ | refine (T5 _ (below_new _ _)).mono ?_ | refine (T5 _ (below_new _ _).drew).mono ?_ | refine (T5 _ ((Below.refl _ _).drew.alloc (Nat.le_refl _) _)).mono ?_); rintro e wt ⟨rfl, ht, kt⟩; (first | (have k5t : wt.cell? ⟨gl, 5, none⟩ = some (.int .i64 x5) := cell_kept k5 kt.kept hglc) | (have k5t : wt.cell? ⟨gl, 5, none⟩ = some (.int .i64 x5) := cell_kept (cell_al k5) kt.kept hglc; have hq5 := kp_blk HQ3.out kt hg3; have z0 := (blk_cell hq5 0).trans (show _ = some (.bool false) from rfl); have f0 := blk_frozen hq5 0; have z1 := (blk_cell hq5 1).trans (show _ = some (.bool false) from rfl); have f1 := blk_frozen hq5 1; have z2 := (blk_cell hq5 2).trans (show _ = some (.bool false) from rfl); have f2 := blk_frozen hq5 2; have z3 := (blk_cell hq5 3).trans (show _ = some (.int .i64 0) from rfl); have f3 := blk_frozen hq5 3; have z4 := (blk_cell hq5 4).trans (show _ = some (.int .i64 0) from rfl); have f4 := blk_frozen hq5 4;  have HQ5 := Lib.hid hq5; clear hq5))))
  focus
    -- the call first, the box behind it
    have hks : w3.heap.size ≤ wt.heap.size := kt.kept.1
    have kA := ((Kp.refl w3 (fun k => k = gc)).drew.then_ kt (fun _ h => .inl h)).below (below_new wt (.cells #[.bool false, .bool false, .bool false, .int .i64 x5, .int .i64 (256 * x6 + x7)] 28))
    have hls : gl < w3.heap.size := World.block_lt_of_cell? _ _ k5
    have hcs := blk_lt HCU3.out
    have hzs := blk_lt HZ3.out
    have F : Fct w l a c g0 gc gl wt.heap.size x0 x1 x2 x3 x4 x5 (256 * x6 + x7) false false false (wt.alloc (.cells #[.bool false, .bool false, .bool false, .int .i64 x5, .int .i64 (256 * x6 + x7)] 28)) := ⟨blk_new wt #[.bool false, .bool false, .bool false, .int .i64 x5, .int .i64 (256 * x6 + x7)] 28, blk_bel ht (below_new wt (.cells #[.bool false, .bool false, .bool false, .int .i64 x5, .int .i64 (256 * x6 + x7)] 28)), kp_blk HZ3.out kA (by omega), C_kp HC3.out kA hac, HB3.out.trans (kA.to HB3.out.size (fun k hk => by rw [hk]; exact HSG.out)), fun i hi => cell_kept (HCL.out i hi) kA.kept hglc, by omega, by omega, by omega, by have := hal.out; omega, by have := HSG.out; omega, hglc, hac, by omega, HSG.out⟩
    obtain ⟨gx, hgx⟩ : ∃ g, wt.heap.size = g := ⟨_, rfl⟩
    rw [hgx] at F
    simp only [hgx]
    generalize wt.alloc (.cells #[.bool false, .bool false, .bool false, .int .i64 x5, .int .i64 (256 * x6 + x7)] 28) = wv at F ⊢
    have HF := Lib.hid F
    clear F ht kt k5t hks kA hls hcs hzs T5 k5 HQ3 hg3 hgl3 hgx HCL HC3 HZ3 HCU3 HB3 HO3
  rotate_left
  focus
    -- the box first, the call behind it
    have hks : w3.heap.size ≤ wt.heap.size := Nat.le_trans (size_new w3 (.cells #[.bool false, .bool false, .bool false, .int .i64 0, .int .i64 0] 28)) kt.kept.1
    have kB0 := ((Kp.refl w3 (fun k => k = gc)).below (below_new w3 (.cells #[.bool false, .bool false, .bool false, .int .i64 0, .int .i64 0] 28))).drew.then_ kt (fun _ h => .inl h)
    have kB := ((((kB0.setCell (p := ⟨w3.heap.size, 0, none⟩) (.inr (Nat.le_refl _)) (.bool false)).setCell (p := ⟨w3.heap.size, 1, none⟩) (.inr (Nat.le_refl _)) (.bool false)).setCell (p := ⟨w3.heap.size, 2, none⟩) (.inr (Nat.le_refl _)) (.bool false)).setCell (p := ⟨w3.heap.size, 3, none⟩) (.inr (Nat.le_refl _)) (.int .i64 x5)).setCell (p := ⟨w3.heap.size, 4, none⟩) (.inr (Nat.le_refl _)) (.int .i64 (256 * x6 + x7))
    have hls : gl < w3.heap.size := World.block_lt_of_cell? _ _ k5
    have hcs := blk_lt HCU3.out
    have hzs := blk_lt HZ3.out
    have F : Fct w l a c g0 gc gl w3.heap.size x0 x1 x2 x3 x4 x5 (256 * x6 + x7) false false false _ := ⟨(blk_put (cs' := #[.bool false, .bool false, .bool false, .int .i64 x5, .int .i64 (256 * x6 + x7)]) (blk_put (cs' := #[.bool false, .bool false, .bool false, .int .i64 x5, .int .i64 0]) (blk_put (cs' := #[.bool false, .bool false, .bool false, .int .i64 0, .int .i64 0]) (blk_put (cs' := #[.bool false, .bool false, .bool false, .int .i64 0, .int .i64 0]) (blk_put (cs' := #[.bool false, .bool false, .bool false, .int .i64 0, .int .i64 0]) (HQ5.out) 0 _ rfl) 1 _ rfl) 2 _ rfl) 3 _ rfl) 4 _ rfl), blk5 ht hg3.symm (.bool false) (.bool false) (.bool false) (.int .i64 x5) (.int .i64 (256 * x6 + x7)), kp_blk HZ3.out kB (by omega), C_kp HC3.out kB hac, HB3.out.trans (kB.to HB3.out.size (fun k hk => by rw [hk]; exact HSG.out)), fun i hi => cell_kept (HCL.out i hi) kB.kept hglc, by omega, by omega, by omega, by have := hal.out; omega, by have := HSG.out; omega, hglc, hac, by omega, HSG.out⟩
    obtain ⟨gx, hgx⟩ : ∃ g, w3.heap.size = g := ⟨_, rfl⟩
    clear kB kB0 HQ5 z0 f0 z1 f1 z2 f2 z3 f3 z4 f4
    rw [hgx] at F
    simp only [hgx]
    generalize (((((wt.setCell ⟨gx, 0, none⟩ (.bool false)).setCell ⟨gx, 1, none⟩ (.bool false)).setCell ⟨gx, 2, none⟩ (.bool false)).setCell ⟨gx, 3, none⟩ (.int .i64 x5)).setCell ⟨gx, 4, none⟩ (.int .i64 (256 * x6 + x7))) = wv at F ⊢
    have HF := Lib.hid F
    clear F ht kt k5t hks hls hcs hzs T5 k5 HQ3 hg3 hgl3 hgx HCL HC3 HZ3 HCU3 HB3 HO3
  all_goals (
    have k4 : wv.cell? ⟨gl, 4, none⟩ = some (.int .i64 x4) := HF.out.kc 4 (by decide)
    have s0 := (blk_cell HF.out.hq 0).trans (show _ = some (.bool false) from rfl)
    have f0 := blk_frozen HF.out.hq 0
    have s1 := (blk_cell HF.out.hq 1).trans (show _ = some (.bool false) from rfl)
    have f1 := blk_frozen HF.out.hq 1
    have s2 := (blk_cell HF.out.hq 2).trans (show _ = some (.bool false) from rfl)
    have f2 := blk_frozen HF.out.hq 2
    go_upto_region 8 with (fail)
    have hx4 := HX4.out
    rw [and128 x4 hx4.1 hx4.2, and64 x4 hx4.1 hx4.2, and32 x4 hx4.1 hx4.2]
    have HG8 := Lib.hid (HF.out.set (x4 / 128 == 1) (x4 / 64 % 2 == 1) (x4 / 32 % 2 == 1))
    clear HF k4 s0 f0 s1 f1 s2 f2
    generalize (((wv.setCell ⟨gx, 0, none⟩ (.bool (x4 / 128 == 1))).setCell ⟨gx, 1, none⟩ (.bool (x4 / 64 % 2 == 1))).setCell ⟨gx, 2, none⟩ (.bool (x4 / 32 % 2 == 1))) = wx at HG8 ⊢
    have k0 : wx.cell? ⟨gl, 0, none⟩ = some (.int .i64 x0) := HG8.out.kc 0 (by decide)
    have k1 : wx.cell? ⟨gl, 1, none⟩ = some (.int .i64 x1) := HG8.out.kc 1 (by decide)
    have k2 : wx.cell? ⟨gl, 2, none⟩ = some (.int .i64 x2) := HG8.out.kc 2 (by decide)
    have k3 : wx.cell? ⟨gl, 3, none⟩ = some (.int .i64 x3) := HG8.out.kc 3 (by decide)
    have b1 : (x1 != 0) = false := by rw [h1]; decide
    have b2 : (x2 != 99) = false := by rw [h2]; decide
    have b3 : (x3 != 4) = true := by simpa using h3
    clear h1 h2 h3
    have z0 := (blk_cell HG8.out.hz 0).trans (show _ = some (.bool false) from rfl)
    have f0 := blk_frozen HG8.out.hz 0
    have z1 := (blk_cell HG8.out.hz 1).trans (show _ = some (.bool false) from rfl)
    have f1 := blk_frozen HG8.out.hz 1
    have z2 := (blk_cell HG8.out.hz 2).trans (show _ = some (.bool false) from rfl)
    have f2 := blk_frozen HG8.out.hz 2
    have z3 := (blk_cell HG8.out.hz 3).trans (show _ = some (.int .i64 0) from rfl)
    have f3 := blk_frozen HG8.out.hz 3
    have z4 := (blk_cell HG8.out.hz 4).trans (show _ = some (.int .i64 0) from rfl)
    have f4 := blk_frozen HG8.out.hz 4
    go_wp2_with fail
    refine bodyPost_ret (results_list (rs := [.tmp 2, .cell 3 28, .tmp 4, .tmp 5]) rfl (by simp) (.tmp (.cell g0 28 #[.bool false, .bool false, .bool false, .int .i64 0, .int .i64 0] (0, 0) _ rfl (blk_put (cs' := #[.bool false, .bool false, .bool false, .int .i64 0, .int .i64 0]) (blk_put (cs' := #[.bool false, .bool false, .bool false, .int .i64 0, .int .i64 0]) (blk_put (cs' := #[.bool false, .bool false, .bool false, .int .i64 0, .int .i64 0]) (blk_put (cs' := #[.bool false, .bool false, .bool false, .int .i64 0, .int .i64 0]) (blk_put (cs' := #[.bool false, .bool false, .bool false, .int .i64 0, .int .i64 0]) (HG8.out.hz) 0 _ rfl) 1 _ rfl) 2 _ rfl) 3 _ rfl) 4 _ rfl) Try.underlying28 rfl (by kernel_rfl) (.tmp (.tmp .nil))))) rfl ?_
    exact ⟨rfl, ((((HG8.out.hb.setCell (p := ⟨g0, 0, none⟩) hgle _).setCell (p := ⟨g0, 1, none⟩) hgle _).setCell (p := ⟨g0, 2, none⟩) hgle _).setCell (p := ⟨g0, 3, none⟩) hgle _).setCell (p := ⟨g0, 4, none⟩) hgle _⟩)
set_option maxHeartbeats 4000000 in
theorem dec_form (A : Option Addr) (c : Nat) (l : List Int) (x0 x1 x2 x3 x4 x5 x6 x7 : Int) (rest : List Int) (hx : l = [x0, x1, x2, x3, x4, x5, x6, x7] ++ rest) (w : World) (h : Kd.C (Kd.int .u8) w A l.length l) (hc : l.length ≤ c) (hc2 : c ≤ 9223372036854775807) (hl3 : l.length ≤ 1000000000) (hb : ∀ x ∈ l, 0 ≤ x ∧ x ≤ 255) (h1 : x1 = 0) (h2 : x2 = 99) (h3 : x3 = 4) (h4 : x4 % 32 ≠ 0) :
    Calls Try.prog 6 #[.slice A l.length c] w fun e w' => e = .returned (.tuple #[.int .i64 0, .agg #[.bool false, .bool false, .bool false, .int .i64 0, .int .i64 0], .slice none 0 0, .int .i64 3]) ∧ Below w.heap.size w w' := by
  have hl : 8 ≤ l.length := by rw [hx]; simp
  obtain ⟨a, rfl⟩ : ∃ a, A = some a := by
    cases A with
    | some a => exact ⟨a, rfl⟩
    | none => obtain ⟨ad, he, _⟩ := h.2.2 (by omega); cases he
  have HX := Lib.hid hx
  have HBy := Lib.hid hb
  have hm6 : manyF l 0 1 6 = [x0, x1, x2, x3, x4, x5] := by rw [hx]; exact many6 x0 x1 x2 x3 x4 x5 x6 x7 rest
  have HM6 := Lib.hid hm6
  have HX4 := Lib.hid (hb x4 (by rw [hx]; simp))
  have HT2 := Lib.hid (show joinF ((l.drop 6).take 2) = 256 * x6 + x7 by rw [hx]; exact take2 x0 x1 x2 x3 x4 x5 x6 x7 rest)
  have HC := Lib.hid h
  have hal := Lib.hid (C_lt8 h (by omega))
  clear h hb hx hm6
  go_enter Try.func6, Try.ntmps6
  go_upto_region 1 with (fail)
  have HZ := Lib.hid (blk_new w #[.bool false, .bool false, .bool false, .int .i64 0, .int .i64 0] 28)
  have HBa := Lib.hid (below_new w (.cells #[.bool false, .bool false, .bool false, .int .i64 0, .int .i64 0] 28))
  have HCa := Lib.hid (Kd.C_below HC.out (below_new w (.cells #[.bool false, .bool false, .bool false, .int .i64 0, .int .i64 0] 28)))
  (obtain ⟨g0, hg0⟩ : ∃ g, w.heap.size = g := ⟨_, rfl⟩)
  rw [hg0] at HZ
  have HG := Lib.hid hg0
  simp only [hg0]
  generalize w.alloc (.cells #[.bool false, .bool false, .bool false, .int .i64 0, .int .i64 0] 28) = wa at HZ HBa HCa ⊢
  clear HC hg0
  have z0 := (blk_cell HZ.out 0).trans (show _ = some (.bool false) from rfl)
  have f0 := blk_frozen HZ.out 0
  have z1 := (blk_cell HZ.out 1).trans (show _ = some (.bool false) from rfl)
  have f1 := blk_frozen HZ.out 1
  have z2 := (blk_cell HZ.out 2).trans (show _ = some (.bool false) from rfl)
  have f2 := blk_frozen HZ.out 2
  have z3 := (blk_cell HZ.out 3).trans (show _ = some (.int .i64 0) from rfl)
  have f3 := blk_frozen HZ.out 3
  have z4 := (blk_cell HZ.out 4).trans (show _ = some (.int .i64 0) from rfl)
  have f4 := blk_frozen HZ.out 4
  have hgle : w.heap.size ≤ g0 := by rw [HG.out]; exact Nat.le_refl _
  go_wp2_with fail
  refine (over_any (some a) l.length c _).mono ?_
  rintro e w2 ⟨rfl, hcu, hb2⟩
  (obtain ⟨gc, hgc⟩ : ∃ g, wa.heap.size = g := ⟨_, rfl⟩)
  rw [hgc] at hcu
  simp only [hgc]
  have HCU := Lib.hid hcu
  have HZ2 := Lib.hid (blk_bel HZ.out hb2)
  have HC2 := Lib.hid (Kd.C_below HCa.out hb2)
  have HB2 := Lib.hid (bel HBa.out hb2)
  have hgz : g0 < gc := by rw [← hgc]; exact blk_lt HZ.out
  have hac : a.block ≠ gc := by have := hal.out; rw [HG.out] at this; omega
  have HSG := Lib.hid (show w.heap.size ≤ gc by omega)
  clear hcu hb2 hgc HZ HCa HBa z0 f0 z1 f1 z2 f2 z3 f3 z4 f4
  go_wp2_with fail
  refine (many_ok gc (some a) c l 0 1 6 6 256 rfl (by omega) (by decide) (by decide) w2 HCU.out (fun w' hk => C_kp HC2.out hk hac) HBy.out hc hc2 (by omega) hl3).mono ?_
  rintro e w3 ⟨⟨v7, rfl, ho⟩, h3, k3⟩
  rw [HM6.out] at ho
  obtain ⟨gl, c7, rfl, hc7, hglb, hcl⟩ := own_cells ho (by decide)
  have HO3 := Lib.hid ho
  have HCU3 := Lib.hid h3
  have HZ3 := Lib.hid (kp_blk HZ2.out k3 (by omega))
  have HC3 := Lib.hid (C_kp HC2.out k3 hac)
  have HB3 := Lib.hid (HB2.out.trans (k3.to HB2.out.size (fun k hk => by rw [hk]; exact HSG.out)))
  have k5 : w3.cell? ⟨gl, 5, none⟩ = some (.int .i64 x5) := hcl 5 (by decide)
  have HGL := Lib.hid (show gc < gl by have := blk_lt HCU.out; omega)
  have HCL := Lib.hid hcl
  clear ho h3 k3 hcl HCU HZ2 HC2 HB2
  go_wp2_with fail
  have hglc : gl ≠ gc := by have := HGL.out; omega
  have T5 : ∀ W, Below w3.heap.size w3 W → Calls Try.prog 19 #[.pointer (some ⟨gc, 0, none⟩), .int .i64 2] W fun e w' => e = .returned (.int .i64 (256 * x6 + x7)) ∧ Cu w' gc (some a) l.length c 8 0 ∧ Kp W w' (fun k => k = gc) := fun W hW => take_ok gc a c l 6 2 8 (256 * x6 + x7) 65536 HT2.out rfl (by decide) (by decide) (by decide) W (blk_bel HCU3.out hW) (Kd.C_below HC3.out hW) HBy.out (fun w' hk => C_kp (Kd.C_below HC3.out hW) hk hac) hc hc2 (by omega)
  have hg3 : w3.heap.size ≠ gc := by have := blk_lt HCU3.out; omega
  have hgl3 : gl ≠ w3.heap.size := by have hh : gl < w3.heap.size := World.block_lt_of_cell? _ _ k5; omega
  have hQ3 : ((w3.alloc (.cells #[.bool false, .bool false, .bool false, .int .i64 0, .int .i64 0] 28)).drew).heap[w3.heap.size]? = some (.cells #[.bool false, .bool false, .bool false, .int .i64 0, .int .i64 0] 28 (0, 0)) := blk_new w3 #[.bool false, .bool false, .bool false, .int .i64 0, .int .i64 0] 28
  have HQ3 := Lib.hid hQ3
  clear hQ3
  go_region_held3 (fun W => W.cell? ⟨gl, 5, none⟩ = some (.int .i64 x5)) (first | (with_reducible exact cell5 k5t hgl3 _ _ _ _ _) | (with_reducible exact k5) | (with_reducible exact celld k5) | (with_reducible exact cell_al k5) | (with_reducible exact celld (cell_al k5)) | (with_reducible exact cell_al (celld k5)) | (with_reducible exact k5t) | (with_reducible exact cell_al k5t)) (first | (go_at_call 19; (first | refine (T5 _ (Below.refl _ _)).mono ?_ | refine (T5 _ (Below.refl _ _).drew).mono ?_ | refine (T5 _ (below_new _ _)).mono ?_ | refine (T5 _ (below_new _ _).drew).mono ?_ | refine (T5 _ ((Below.refl _ _).drew.alloc (Nat.le_refl _) _)).mono ?_); rintro e wt ⟨rfl, ht, kt⟩; (first | (have k5t : wt.cell? ⟨gl, 5, none⟩ = some (.int .i64 x5) := cell_kept k5 kt.kept hglc) | (have k5t : wt.cell? ⟨gl, 5, none⟩ = some (.int .i64 x5) := cell_kept (cell_al k5) kt.kept hglc; have hq5 := kp_blk HQ3.out kt hg3; have z0 := (blk_cell hq5 0).trans (show _ = some (.bool false) from rfl); have f0 := blk_frozen hq5 0; have z1 := (blk_cell hq5 1).trans (show _ = some (.bool false) from rfl); have f1 := blk_frozen hq5 1; have z2 := (blk_cell hq5 2).trans (show _ = some (.bool false) from rfl); have f2 := blk_frozen hq5 2; have z3 := (blk_cell hq5 3).trans (show _ = some (.int .i64 0) from rfl); have f3 := blk_frozen hq5 3; have z4 := (blk_cell hq5 4).trans (show _ = some (.int .i64 0) from rfl); have f4 := blk_frozen hq5 4;  have HQ5 := Lib.hid hq5; clear hq5))))
  focus
    -- the call first, the box behind it
    have hks : w3.heap.size ≤ wt.heap.size := kt.kept.1
    have kA := ((Kp.refl w3 (fun k => k = gc)).drew.then_ kt (fun _ h => .inl h)).below (below_new wt (.cells #[.bool false, .bool false, .bool false, .int .i64 x5, .int .i64 (256 * x6 + x7)] 28))
    have hls : gl < w3.heap.size := World.block_lt_of_cell? _ _ k5
    have hcs := blk_lt HCU3.out
    have hzs := blk_lt HZ3.out
    have F : Fct w l a c g0 gc gl wt.heap.size x0 x1 x2 x3 x4 x5 (256 * x6 + x7) false false false (wt.alloc (.cells #[.bool false, .bool false, .bool false, .int .i64 x5, .int .i64 (256 * x6 + x7)] 28)) := ⟨blk_new wt #[.bool false, .bool false, .bool false, .int .i64 x5, .int .i64 (256 * x6 + x7)] 28, blk_bel ht (below_new wt (.cells #[.bool false, .bool false, .bool false, .int .i64 x5, .int .i64 (256 * x6 + x7)] 28)), kp_blk HZ3.out kA (by omega), C_kp HC3.out kA hac, HB3.out.trans (kA.to HB3.out.size (fun k hk => by rw [hk]; exact HSG.out)), fun i hi => cell_kept (HCL.out i hi) kA.kept hglc, by omega, by omega, by omega, by have := hal.out; omega, by have := HSG.out; omega, hglc, hac, by omega, HSG.out⟩
    obtain ⟨gx, hgx⟩ : ∃ g, wt.heap.size = g := ⟨_, rfl⟩
    rw [hgx] at F
    simp only [hgx]
    generalize wt.alloc (.cells #[.bool false, .bool false, .bool false, .int .i64 x5, .int .i64 (256 * x6 + x7)] 28) = wv at F ⊢
    have HF := Lib.hid F
    clear F ht kt k5t hks kA hls hcs hzs T5 k5 HQ3 hg3 hgl3 hgx HCL HC3 HZ3 HCU3 HB3 HO3
  rotate_left
  focus
    -- the box first, the call behind it
    have hks : w3.heap.size ≤ wt.heap.size := Nat.le_trans (size_new w3 (.cells #[.bool false, .bool false, .bool false, .int .i64 0, .int .i64 0] 28)) kt.kept.1
    have kB0 := ((Kp.refl w3 (fun k => k = gc)).below (below_new w3 (.cells #[.bool false, .bool false, .bool false, .int .i64 0, .int .i64 0] 28))).drew.then_ kt (fun _ h => .inl h)
    have kB := ((((kB0.setCell (p := ⟨w3.heap.size, 0, none⟩) (.inr (Nat.le_refl _)) (.bool false)).setCell (p := ⟨w3.heap.size, 1, none⟩) (.inr (Nat.le_refl _)) (.bool false)).setCell (p := ⟨w3.heap.size, 2, none⟩) (.inr (Nat.le_refl _)) (.bool false)).setCell (p := ⟨w3.heap.size, 3, none⟩) (.inr (Nat.le_refl _)) (.int .i64 x5)).setCell (p := ⟨w3.heap.size, 4, none⟩) (.inr (Nat.le_refl _)) (.int .i64 (256 * x6 + x7))
    have hls : gl < w3.heap.size := World.block_lt_of_cell? _ _ k5
    have hcs := blk_lt HCU3.out
    have hzs := blk_lt HZ3.out
    have F : Fct w l a c g0 gc gl w3.heap.size x0 x1 x2 x3 x4 x5 (256 * x6 + x7) false false false _ := ⟨(blk_put (cs' := #[.bool false, .bool false, .bool false, .int .i64 x5, .int .i64 (256 * x6 + x7)]) (blk_put (cs' := #[.bool false, .bool false, .bool false, .int .i64 x5, .int .i64 0]) (blk_put (cs' := #[.bool false, .bool false, .bool false, .int .i64 0, .int .i64 0]) (blk_put (cs' := #[.bool false, .bool false, .bool false, .int .i64 0, .int .i64 0]) (blk_put (cs' := #[.bool false, .bool false, .bool false, .int .i64 0, .int .i64 0]) (HQ5.out) 0 _ rfl) 1 _ rfl) 2 _ rfl) 3 _ rfl) 4 _ rfl), blk5 ht hg3.symm (.bool false) (.bool false) (.bool false) (.int .i64 x5) (.int .i64 (256 * x6 + x7)), kp_blk HZ3.out kB (by omega), C_kp HC3.out kB hac, HB3.out.trans (kB.to HB3.out.size (fun k hk => by rw [hk]; exact HSG.out)), fun i hi => cell_kept (HCL.out i hi) kB.kept hglc, by omega, by omega, by omega, by have := hal.out; omega, by have := HSG.out; omega, hglc, hac, by omega, HSG.out⟩
    obtain ⟨gx, hgx⟩ : ∃ g, w3.heap.size = g := ⟨_, rfl⟩
    clear kB kB0 HQ5 z0 f0 z1 f1 z2 f2 z3 f3 z4 f4
    rw [hgx] at F
    simp only [hgx]
    generalize (((((wt.setCell ⟨gx, 0, none⟩ (.bool false)).setCell ⟨gx, 1, none⟩ (.bool false)).setCell ⟨gx, 2, none⟩ (.bool false)).setCell ⟨gx, 3, none⟩ (.int .i64 x5)).setCell ⟨gx, 4, none⟩ (.int .i64 (256 * x6 + x7))) = wv at F ⊢
    have HF := Lib.hid F
    clear F ht kt k5t hks hls hcs hzs T5 k5 HQ3 hg3 hgl3 hgx HCL HC3 HZ3 HCU3 HB3 HO3
  all_goals (
    have k4 : wv.cell? ⟨gl, 4, none⟩ = some (.int .i64 x4) := HF.out.kc 4 (by decide)
    have s0 := (blk_cell HF.out.hq 0).trans (show _ = some (.bool false) from rfl)
    have f0 := blk_frozen HF.out.hq 0
    have s1 := (blk_cell HF.out.hq 1).trans (show _ = some (.bool false) from rfl)
    have f1 := blk_frozen HF.out.hq 1
    have s2 := (blk_cell HF.out.hq 2).trans (show _ = some (.bool false) from rfl)
    have f2 := blk_frozen HF.out.hq 2
    go_upto_region 8 with (fail)
    have hx4 := HX4.out
    rw [and128 x4 hx4.1 hx4.2, and64 x4 hx4.1 hx4.2, and32 x4 hx4.1 hx4.2]
    have HG8 := Lib.hid (HF.out.set (x4 / 128 == 1) (x4 / 64 % 2 == 1) (x4 / 32 % 2 == 1))
    clear HF k4 s0 f0 s1 f1 s2 f2
    generalize (((wv.setCell ⟨gx, 0, none⟩ (.bool (x4 / 128 == 1))).setCell ⟨gx, 1, none⟩ (.bool (x4 / 64 % 2 == 1))).setCell ⟨gx, 2, none⟩ (.bool (x4 / 32 % 2 == 1))) = wx at HG8 ⊢
    have k0 : wx.cell? ⟨gl, 0, none⟩ = some (.int .i64 x0) := HG8.out.kc 0 (by decide)
    have k1 : wx.cell? ⟨gl, 1, none⟩ = some (.int .i64 x1) := HG8.out.kc 1 (by decide)
    have k2 : wx.cell? ⟨gl, 2, none⟩ = some (.int .i64 x2) := HG8.out.kc 2 (by decide)
    have k3 : wx.cell? ⟨gl, 3, none⟩ = some (.int .i64 x3) := HG8.out.kc 3 (by decide)
    have b1 : (x1 != 0) = false := by rw [h1]; decide
    have b2 : (x2 != 99) = false := by rw [h2]; decide
    have b3 : (x3 != 4) = false := by rw [h3]; decide
    clear h1 h2 h3
    go_upto_region 10 with (fail)
    have q0 := (blk_cell HG8.out.hq 0).trans (show _ = some (.bool (x4 / 128 == 1)) from rfl)
    have q1 := (blk_cell HG8.out.hq 1).trans (show _ = some (.bool (x4 / 64 % 2 == 1)) from rfl)
    have q2 := (blk_cell HG8.out.hq 2).trans (show _ = some (.bool (x4 / 32 % 2 == 1)) from rfl)
    have q3 := (blk_cell HG8.out.hq 3).trans (show _ = some (.int .i64 x5) from rfl)
    have q4 := (blk_cell HG8.out.hq 4).trans (show _ = some (.int .i64 (256 * x6 + x7)) from rfl)
    have HFL := Lib.hid (fun W => flags_any (x4 / 128 == 1) (x4 / 64 % 2 == 1) (x4 / 32 % 2 == 1) x5 (256 * x6 + x7) (x4 - x4 % 32) (flF_byte x4 hx4.1 hx4.2) W)
    go_wp2_with fail
    refine (HFL.out wx).mono ?_
    rintro e wy ⟨rfl, hby⟩
    have HF := Lib.hid (HG8.out.below hby)
    clear hby HG8 q0 q1 q2 q3 q4 k0 k1 k2 k3 HFL
    have b4 : (x4 != x4 - x4 % 32) = true := by simp; omega
    clear h4
    have z0 := (blk_cell HF.out.hz 0).trans (show _ = some (.bool false) from rfl)
    have f0 := blk_frozen HF.out.hz 0
    have z1 := (blk_cell HF.out.hz 1).trans (show _ = some (.bool false) from rfl)
    have f1 := blk_frozen HF.out.hz 1
    have z2 := (blk_cell HF.out.hz 2).trans (show _ = some (.bool false) from rfl)
    have f2 := blk_frozen HF.out.hz 2
    have z3 := (blk_cell HF.out.hz 3).trans (show _ = some (.int .i64 0) from rfl)
    have f3 := blk_frozen HF.out.hz 3
    have z4 := (blk_cell HF.out.hz 4).trans (show _ = some (.int .i64 0) from rfl)
    have f4 := blk_frozen HF.out.hz 4
    go_wp2_with fail
    refine bodyPost_ret (results_list (rs := [.tmp 2, .cell 3 28, .tmp 4, .tmp 5]) rfl (by simp) (.tmp (.cell g0 28 #[.bool false, .bool false, .bool false, .int .i64 0, .int .i64 0] (0, 0) _ rfl (blk_put (cs' := #[.bool false, .bool false, .bool false, .int .i64 0, .int .i64 0]) (blk_put (cs' := #[.bool false, .bool false, .bool false, .int .i64 0, .int .i64 0]) (blk_put (cs' := #[.bool false, .bool false, .bool false, .int .i64 0, .int .i64 0]) (blk_put (cs' := #[.bool false, .bool false, .bool false, .int .i64 0, .int .i64 0]) (blk_put (cs' := #[.bool false, .bool false, .bool false, .int .i64 0, .int .i64 0]) (HF.out.hz) 0 _ rfl) 1 _ rfl) 2 _ rfl) 3 _ rfl) 4 _ rfl) Try.underlying28 rfl (by kernel_rfl) (.tmp (.tmp .nil))))) rfl ?_
    exact ⟨rfl, ((((HF.out.hb.setCell (p := ⟨g0, 0, none⟩) hgle _).setCell (p := ⟨g0, 1, none⟩) hgle _).setCell (p := ⟨g0, 2, none⟩) hgle _).setCell (p := ⟨g0, 3, none⟩) hgle _).setCell (p := ⟨g0, 4, none⟩) hgle _⟩)
end Go.Proofs.Ytpmbibpphomfkaa.Hb
