/- With one pair of bytes replaced the checksum is another one; pairs may stand in any order: the law's walk. -/
import Derived.Test.YtnbglbehdjhmcaaSumTellsPlain
import Derived.Deep.RegionHeld3
set_option maxRecDepth 100000
set_option linter.unusedVariables false
set_option linter.unusedSimpArgs false
namespace Go.Proofs.Ytnbglbehdjhmcaa.Sum
open Go.RowKit Go.Proofs.YtnbglbehdjhmcaaW.PrintWords Go.Proofs.Ytnbglbehdjhmcaa.PSumAdds
/-- Bytes that stand at a in a block of their own kind. -/
def Bw (w : World) (a : Addr) (l : List Int) : Prop := ∃ g o cur, a = ⟨g, o, none⟩ ∧ w.heap[g]? = some (.cells cur 5 (0, 0)) ∧ (∀ (j : Nat) (x : Int), l[j]? = some x → cur[o + j]? = some (.int .u8 x)) ∧ l.length ≤ 1000000
theorem add_at (g o i : Nat) : (Addr.add ⟨g, o, none⟩ i) = ⟨g, o + i, none⟩ := by unfold Addr.add; split <;> simp_all
theorem Bw.cell {w : World} {a : Addr} {l : List Int} (h : Bw w a l) (i : Nat) (hi : i < l.length) : w.cell? (a.add i) = some (.int .u8 (rd l i)) := by
  obtain ⟨g, o, cur, rfl, hh, hc, _⟩ := h
  rw [add_at, blk_cell hh, hc i (rd l i) (by simp [rd, hi])]
theorem Bw.free {w : World} {a : Addr} {l : List Int} (h : Bw w a l) (i : Nat) : w.frozen? (a.add i) = false := by
  obtain ⟨g, o, cur, rfl, hh, hc, _⟩ := h
  rw [add_at]; exact blk_frozen hh _
theorem Bw.C {w : World} {a : Addr} {l : List Int} (h : Bw w a l) : Kd.C (Kd.int .u8) w (some a) l.length l :=
  Kd.C_of_reads (enc := Value.int .u8) (d := (0 : Int)) (h1 := fun _ => rfl) ⟨rfl, by obtain ⟨_, _, _, _, _, _, h⟩ := h; omega, fun _ => ⟨a, rfl, fun j hj => h.cell j hj⟩⟩
theorem Bw.put {w : World} {a : Addr} {l : List Int} (h : Bw w a l) (i : Nat) (x : Int) (hi : i < l.length) : Bw (w.setCell (a.add i) (.int .u8 x)) a (l.set i x) := by
  obtain ⟨g, o, cur, rfl, hh, hc, hl⟩ := h
  refine ⟨g, o, cur.setIfInBounds (o + i) (.int .u8 x), rfl, by rw [add_at]; exact blk_set hh _ _, fun j y hj => ?_, by simpa using hl⟩
  rw [List.getElem?_set] at hj
  by_cases hij : i = j
  · subst hij
    rw [if_pos rfl, if_pos hi] at hj
    injection hj with hj
    subst hj
    have hb : o + i < cur.size := (Array.getElem?_eq_some_iff.1 (hc i (rd l i) (by simp [rd, hi]))).1
    simp [hb]
  · rw [if_neg hij] at hj
    rw [Array.getElem?_setIfInBounds_ne (by omega)]
    exact hc j y hj
theorem cell_far {w : World} {x p : Addr} {v : Value} (h : w.cell? x = some v) (hp : x.block ≠ p.block) (u : Value) : (w.setCell p u).cell? x = some v :=
  (World.cell?_of_block (Below.heap_setCell w p u x.block hp)).trans h
theorem add_blk (a : Addr) (n : Nat) : (a.add n).block = a.block := by unfold Addr.add; split <;> rfl
theorem Bw.lt {w : World} {a : Addr} {l : List Int} (h : Bw w a l) : a.block < w.heap.size := by
  obtain ⟨g, o, cur, rfl, hh, _, _⟩ := h; exact blk_lt hh
theorem Bw.far {w : World} {a p : Addr} {l : List Int} (h : Bw w a l) (hp : a.block ≠ p.block) (u : Value) : Bw (w.setCell p u) a l := by
  obtain ⟨g, o, cur, rfl, hh, hc⟩ := h
  exact ⟨g, o, cur, rfl, blk_far hh hp u, hc⟩
theorem Bw.bel {w w' : World} {a : Addr} {l : List Int} (h : Bw w a l) (hb : Below w.heap.size w w') : Bw w' a l := by
  obtain ⟨g, o, cur, rfl, hh, hc⟩ := h
  exact ⟨g, o, cur, rfl, blk_bel hh hb, hc⟩
theorem Bw.of_own {w : World} {base n : Nat} {v : Value} {l : List Int} (h : w.ownsRow base 5 1 v n (encs (Value.int .u8) l)) (hn : 0 < n) (hl : n ≤ 1000000) : ∃ a c, v = .slice (some a) n c ∧ n ≤ c ∧ base ≤ a.block ∧ Bw w a l := by
  have hlen : l.length = n := by have := h.1; simp [encs] at this; exact this
  rcases h.2 with ⟨rfl, h0⟩ | ⟨g, cap, cur, rfl, hb, hh, hnc, _, _, ht⟩
  · omega
  · refine ⟨⟨g, 0, none⟩, cap, rfl, hnc, hb, g, 0, cur, rfl, hh, fun j x hj => ?_, by omega⟩
    have h1 : (encs (Value.int .u8) l)[j]? = some (.int .u8 x) := by simp [encs, hj]
    rw [← ht, List.getElem?_take] at h1
    split at h1
    · rw [Nat.zero_add, ← Array.getElem?_toList]; exact h1
    · cases h1
theorem Bw.drop {w : World} {a : Addr} {l : List Int} (h : Bw w a l) (k : Nat) : Bw w (a.add k) (l.drop k) := by
  obtain ⟨g, o, cur, rfl, hh, hc, hl⟩ := h
  refine ⟨g, o + k, cur, add_at g o k, hh, fun j x hj => ?_, by simp; omega⟩
  rw [List.getElem?_drop] at hj
  rw [show o + k + j = o + (k + j) by omega]
  exact hc _ _ hj
theorem of_one (A : Option Addr) (c n : Nat) (l : List Int) (hn : n = l.length) (r : Int) (hr : 65535 - (addF (0, 0) l).1 = r) (w : World) (h : Kd.C (Kd.int .u8) w A l.length l) (hc : n ≤ c) (hb : ∀ x ∈ l, 0 ≤ x ∧ x ≤ 255) (hl : n ≤ 1000000) :
    Calls Try.prog 42 #[.slice (some ⟨w.heap.size, 0, none⟩) 1 1] (w.alloc (.cells #[.slice A n c] 30)) fun e w' => e = .returned (.int .i64 r) ∧ Below w.heap.size w w' := by
  subst hn
  have hn := (addF_len l hb).2
  refine (of_anyN (some ⟨w.heap.size, 0, none⟩) 1 1 [l] rfl r (by simpa using hr) _ (C_one (blk_new _ _ _) hc (Kd.C_below h (below_new _ _))) (fun b hb' => by rw [List.mem_singleton.1 hb']; exact hb) (by simp [total]; omega) (by simp) (by omega)).mono ?_
  rintro e w' ⟨rfl, hB⟩
  exact ⟨rfl, Go.Proofs.Ytnbglbehdjhmcaa.Sum.bel (below_new _ _) hB⟩
set_option maxHeartbeats 8000000 in
theorem tells_even (A : Option Addr) (cap : Nat) (z : List Int) (x m : Nat) (at' ot by' : Int) (hx : (if (300 : Int) < z.length then 300 else (z.length : Int)) = x) (hcap : z.length ≤ cap) (hzb : ∀ x ∈ z, 0 ≤ x ∧ x ≤ 255) (hm : x = 2 * m) (hm0 : 0 < m) (w : World) (hz : Kd.C (Kd.int .u8) w A z.length z) :
    Calls Try.prog 8 #[.slice A z.length cap, .int .i64 at', .int .i64 ot, .int .i64 by'] w fun e w' => e = .returned (.bool true) ∧ Below w.heap.size w w' := by
  have hx1 : x ≤ z.length ∧ x ≤ 300 := by split at hx <;> omega
  obtain ⟨hx1, hx2⟩ := hx1
  have HC := Lib.hid (C_takeS hz hx1)
  have HB := Lib.hid (fun y (hy : y ∈ z.take x) => hzb y (List.mem_of_mem_take hy))
  have hxl : (z.take x).length = x := by simp; omega
  have hxc : x ≤ cap := by omega
  generalize z.take x = L at HC HB hxl
  clear hz hzb hx1
  have HM := Lib.hid hm
  obtain ⟨p, hp⟩ : ∃ p : Nat, (IntKind.u64.wrap at').tmod (m : Int) = p := by
    have h2 : 0 ≤ IntKind.u64.wrap at' := by rw [IntKind.wrap_u64]; omega
    rw [Int.tmod_eq_emod_of_nonneg h2]
    exact ⟨_, (Int.toNat_of_nonneg (Int.emod_nonneg _ (by omega))).symm⟩
  obtain ⟨q, hq⟩ : ∃ q : Nat, (IntKind.u64.wrap ot).tmod (m : Int) = q := by
    have h2 : 0 ≤ IntKind.u64.wrap ot := by rw [IntKind.wrap_u64]; omega
    rw [Int.tmod_eq_emod_of_nonneg h2]
    exact ⟨_, (Int.toNat_of_nonneg (Int.emod_nonneg _ (by omega))).symm⟩
  have hpm : p < m := by
    have h2 : 0 ≤ IntKind.u64.wrap at' := by rw [IntKind.wrap_u64]; omega
    rw [Int.tmod_eq_emod_of_nonneg h2] at hp
    have := Int.emod_lt_of_pos (IntKind.u64.wrap at') (show (0 : Int) < m by omega)
    omega
  have hqm : q < m := by
    have h2 : 0 ≤ IntKind.u64.wrap ot := by rw [IntKind.wrap_u64]; omega
    rw [Int.tmod_eq_emod_of_nonneg h2] at hq
    have := Int.emod_lt_of_pos (IntKind.u64.wrap ot) (show (0 : Int) < m by omega)
    omega
  obtain ⟨b, hb⟩ : ∃ b : Int, (IntKind.u64.wrap by').tmod 65536 = b := ⟨_, rfl⟩
  have hb01 : 0 ≤ b ∧ b ≤ 65535 := by
    have h2 : 0 ≤ IntKind.u64.wrap by' := by rw [IntKind.wrap_u64]; omega
    rw [Int.tmod_eq_emod_of_nonneg h2] at hb
    omega
  obtain ⟨hb0, hb1⟩ := hb01
  have e2 : IntKind.u64.wrap (m : Int) = m := by rw [IntKind.wrap_u64]; omega
  have e3 : IntKind.i64.wrap (p : Int) = p := by rw [IntKind.wrap_i64]; omega
  have e4 : IntKind.i64.wrap (q : Int) = q := by rw [IntKind.wrap_i64]; omega
  have e5 : IntKind.i64.wrap b = b := by rw [IntKind.wrap_i64]; omega
  have e6 : IntKind.u64.wrap (p : Int) = p := by rw [IntKind.wrap_u64]; omega
  have e7 : IntKind.u64.wrap (q : Int) = q := by rw [IntKind.wrap_u64]; omega
  have e8 : IntKind.u64.wrap b = b := by rw [IntKind.wrap_u64]; omega
  have hmz : ¬ (m : Int) = 0 := by omega
  have hpar : ((x : Int) % 2 == 1) = false := by rw [hm]; first | (simp; done) | (simp; omega)
  have hx3 : 2 ≤ x := by omega
  clear hm
  go_enter Try.func8, Try.ntmps8
  go_upto_region 6 with (first | ((with_reducible refine gate_builtin (b := .append) (xs := #[.tmp 13, .tmp 18]) rfl ?_); at_builtin; refine print_append_row_of (w0 := w) (Value.int .u8) (0 : Int) w.heap.size rfl (.tmp 13) (.tmp 18) 30 5 (.int .u8 0) 1 rfl Try.underlying30 infoB rfl (by decide) (fun _ => rfl) (.slice (some ⟨w.heap.size, 0, none⟩) 0 0) [] L A x cap rfl rfl (World.ownsRow_made w #[] 0 (Nat.le_refl _) (Nat.zero_le _) rfl) ?aR ?aB ?aS ?aL ?_; (case aR => have h := Kd.reads_of_C (enc := Value.int .u8) (d := (0 : Int)) (h1 := fun _ => rfl) (Kd.C_alloc HC.out (.cells #[] 5)); exact h); (case aB => exact below_new _ _); (case aS => exact size_new _ _); (case aL => first | omega | (simp; omega)); intro v1 w1 ho hb1 hg1 hat1; (rw [show ([] : List Int) ++ L = L from rfl, hxl] at ho); have HB1 := Lib.hid hb1; obtain ⟨a, c1, hv1, hc1, hab, hBw⟩ := Bw.of_own ho (by omega) (by omega); subst hv1; have HAB := Lib.hid hab; have HBW := Lib.hid hBw; clear hab hBw; clear ho hg1 hat1 hb1))
  subst hxl
  have hdv : (L.length : Int).tdiv 2 = m := by rw [HM.out, Int.tdiv_eq_ediv_of_nonneg (by omega)]; omega
  have hdv2 : (L.length : Int) / 2 = m := by rw [HM.out]; omega
  have ewm : IntKind.i64.wrap (m : Int) = m := by rw [IntKind.wrap_i64]; omega
  go_quiet (fail)
  have HBW2 := Lib.hid (Bw.bel HBW.out (pw_below_drewN (Below.refl w1.heap.size w1) nq))
  have HBd := Lib.hid (pw_below_drewN HB1.out nq)
  clear HBW HB1
  generalize w1.drewN nq = W1 at HBW2 HBd ⊢
  obtain ⟨r, hr⟩ : ∃ r : Int, 65535 - (addF (0, 0) L).1 = r := ⟨_, rfl⟩
  have HRR := Lib.hid hr
  clear hr
  go_wp2_with fail
  refine (of_one (some a) c1 L.length L rfl r HRR.out _ HBW2.out.C hc1 HB.out (by omega)).mono ?_
  rintro e w2 ⟨rfl, hb2⟩
  have HBW3 := Lib.hid (HBW2.out.bel hb2)
  have HBd2 := Lib.hid (bel HBd.out hb2)
  clear hb2 HBW2 HBd
  go_wp2_with (first | ((with_reducible refine gate_builtin (b := .append) (xs := #[.tmp 53, .tmp 54]) rfl ?_); at_builtin; refine print_append_row_of (w0 := w2) (Value.int .u8) (0 : Int) w2.heap.size rfl (.tmp 53) (.tmp 54) 30 5 (.int .u8 0) 1 rfl Try.underlying30 infoB rfl (by decide) (fun _ => rfl) (.slice (some ⟨w2.heap.size, 0, none⟩) 0 0) [] L (some a) L.length c1 rfl rfl (World.ownsRow_made w2 #[] 0 (Nat.le_refl _) (Nat.zero_le _) rfl) ?cR ?cB ?cS ?cL ?_; (case cR => have h := Kd.reads_of_C (enc := Value.int .u8) (d := (0 : Int)) (h1 := fun _ => rfl) (Kd.C_alloc HBW3.out.C (.cells #[] 5)); exact h); (case cB => exact below_new _ _); (case cS => exact size_new _ _); (case cL => first | omega | (simp; omega)); intro v3 w3 ho hb3 hg3 hat3; (rw [show ([] : List Int) ++ L = L from rfl] at ho); obtain ⟨a2, c2, hv3, hc2, hab2, hBw2⟩ := Bw.of_own ho (by omega) (by omega); subst hv3; have HBW4 := Lib.hid (HBW3.out.bel hb3); have HBC4 := Lib.hid hBw2; have HNE := Lib.hid (show a.block ≠ a2.block by have := HBW3.out.lt; omega); have HBd3 := Lib.hid (bel HBd2.out hb3); have HAB2 := Lib.hid (show w.heap.size ≤ a2.block by have := HBd2.out.size; omega); clear ho hg3 hat3 hb3 hab2 hBw2 HBW3 HBd2))
  (obtain ⟨P, hP⟩ : ∃ P : Nat, P = 2 * p := ⟨_, rfl⟩)
  (obtain ⟨Q, hQ⟩ : ∃ Q : Nat, Q = 2 * q := ⟨_, rfl⟩)
  (obtain ⟨P1, hP1⟩ : ∃ P1 : Nat, P1 = 2 * p + 1 := ⟨_, rfl⟩)
  (obtain ⟨Q1, hQ1⟩ : ∃ Q1 : Nat, Q1 = 2 * q + 1 := ⟨_, rfl⟩)
  have e9 : IntKind.i64.wrap (2 * (p : Int)) = (P : Int) := by rw [IntKind.wrap_i64]; omega
  have e10 : IntKind.i64.wrap (2 * (q : Int)) = (Q : Int) := by rw [IntKind.wrap_i64]; omega
  have e11 : IntKind.i64.wrap ((P : Int) + 1) = (P1 : Int) := by rw [IntKind.wrap_i64]; omega
  have e12 : IntKind.i64.wrap ((Q : Int) + 1) = (Q1 : Int) := by rw [IntKind.wrap_i64]; omega
  have HN := Lib.hid (show P < L.length ∧ Q < L.length ∧ P1 < L.length ∧ Q1 < L.length by have := HM.out; omega)
  have i1 : (0 : Int) ≤ P := by omega
  have i2 : (0 : Int) ≤ Q := by omega
  have i3 : (0 : Int) ≤ P1 := by omega
  have i4 : (0 : Int) ≤ Q1 := by omega
  have i5 : (P : Int) < L.length := by have := HN.out; omega
  have i6 : (Q : Int) < L.length := by have := HN.out; omega
  have i7 : (P1 : Int) < L.length := by have := HN.out; omega
  have i8 : (Q1 : Int) < L.length := by have := HN.out; omega
  have HPQ := Lib.hid (And.intro hP (And.intro hQ (And.intro hP1 hQ1)))
  clear hP hQ hP1 hQ1
  have k1 := HBW4.out.cell Q HN.out.2.1
  have k2 := HBW4.out.cell P HN.out.1
  have f1 := HBC4.out.free P
  have f2 := HBC4.out.free Q
  have d1 := HBC4.out.cell P HN.out.1
  have d2 := HBC4.out.cell Q HN.out.2.1
  have n1 : ∀ i j, (a.add i).block ≠ (a2.add j).block := fun i j => by rw [add_blk, add_blk]; exact HNE.out
  have HBC5 := Lib.hid (HBC4.out.put P (rd L (Q : Int)) HN.out.1)
  have d3 := HBC5.out.cell Q (by simpa using HN.out.2.1)
  have f3 := HBC5.out.free Q
  go_region_held3 (fun W => W.cell? (a.add Q) = some (.int .u8 (rd L (Q : Int))) ∧ W.cell? (a.add P) = some (.int .u8 (rd L (P : Int)))) (first | exact ⟨k1, k2⟩ | exact ⟨cell_far k1 (n1 _ _) _, cell_far k2 (n1 _ _) _⟩ | exact ⟨cell_far (cell_far k1 (n1 _ _) _) (n1 _ _) _, cell_far (cell_far k2 (n1 _ _) _) (n1 _ _) _⟩) (fail)
  have HBW5 : Hid (Bw ((w3.setCell (a2.add P) (Value.int .u8 (rd L (Q : Int)))).setCell (a2.add Q) (Value.int .u8 (rd L (P : Int)))).drew a L) := Lib.hid ((HBW4.out.far (by rw [add_blk]; exact HNE.out) _).far (by rw [add_blk]; exact HNE.out) _)
  have HBC6 : Hid (Bw ((w3.setCell (a2.add P) (Value.int .u8 (rd L (Q : Int)))).setCell (a2.add Q) (Value.int .u8 (rd L (P : Int)))).drew a2 ((L.set P (rd L (Q : Int))).set Q (rd L (P : Int)))) := Lib.hid (HBC5.out.put Q (rd L (P : Int)) (by simpa using HN.out.2.1))
  have HBd5 : Hid (Below w.heap.size w ((w3.setCell (a2.add P) (Value.int .u8 (rd L (Q : Int)))).setCell (a2.add Q) (Value.int .u8 (rd L (P : Int)))).drew) := Lib.hid (((HBd3.out.setCell (by rw [add_blk]; exact HAB2.out) _).setCell (by rw [add_blk]; exact HAB2.out) _).drew)
  generalize ((w3.setCell (a2.add P) (Value.int .u8 (rd L (Q : Int)))).setCell (a2.add Q) (Value.int .u8 (rd L (P : Int)))).drew = W5 at HBW5 HBC6 HBd5 ⊢
  have HCE := Lib.hid (Eq.refl ((L.set P (rd L (Q : Int))).set Q (rd L (P : Int))))
  generalize hC1 : (L.set P (rd L (Q : Int))).set Q (rd L (P : Int)) = C1 at HBC6 HCE
  have HC1 := Lib.hid hC1
  have HCL := Lib.hid (show C1.length = L.length by rw [← hC1]; simp)
  clear hC1 HCE k1 k2 f1 f2 d1 d2 d3 f3 HBW4 HBC4 HBC5 HBd3
  have k1 := HBW5.out.cell Q1 HN.out.2.2.2
  have k2 := HBW5.out.cell P1 HN.out.2.2.1
  have f1 := HBC6.out.free P1
  have f2 := HBC6.out.free Q1
  have d1 := HBC6.out.cell P1 (by rw [HCL.out]; exact HN.out.2.2.1)
  have d2 := HBC6.out.cell Q1 (by rw [HCL.out]; exact HN.out.2.2.2)
  have HBC7 := Lib.hid (HBC6.out.put P1 (rd L (Q1 : Int)) (by rw [HCL.out]; exact HN.out.2.2.1))
  have d3 := HBC7.out.cell Q1 (by rw [List.length_set, HCL.out]; exact HN.out.2.2.2)
  have f3 := HBC7.out.free Q1
  go_wp2_with fail
  go_region_held3 (fun W => W.cell? (a.add Q1) = some (.int .u8 (rd L (Q1 : Int))) ∧ W.cell? (a.add P1) = some (.int .u8 (rd L (P1 : Int)))) (first | exact ⟨k1, k2⟩ | exact ⟨cell_far k1 (n1 _ _) _, cell_far k2 (n1 _ _) _⟩ | exact ⟨cell_far (cell_far k1 (n1 _ _) _) (n1 _ _) _, cell_far (cell_far k2 (n1 _ _) _) (n1 _ _) _⟩) (fail)
  have HBW6 : Hid (Bw ((W5.setCell (a2.add P1) (Value.int .u8 (rd L (Q1 : Int)))).setCell (a2.add Q1) (Value.int .u8 (rd L (P1 : Int)))).drew a L) := Lib.hid ((HBW5.out.far (by rw [add_blk]; exact HNE.out) _).far (by rw [add_blk]; exact HNE.out) _)
  have HBC8 : Hid (Bw ((W5.setCell (a2.add P1) (Value.int .u8 (rd L (Q1 : Int)))).setCell (a2.add Q1) (Value.int .u8 (rd L (P1 : Int)))).drew a2 ((C1.set P1 (rd L (Q1 : Int))).set Q1 (rd L (P1 : Int)))) := Lib.hid (HBC7.out.put Q1 (rd L (P1 : Int)) (by rw [List.length_set, HCL.out]; exact HN.out.2.2.2))
  have HBd6 : Hid (Below w.heap.size w ((W5.setCell (a2.add P1) (Value.int .u8 (rd L (Q1 : Int)))).setCell (a2.add Q1) (Value.int .u8 (rd L (P1 : Int)))).drew) := Lib.hid (((HBd5.out.setCell (by rw [add_blk]; exact HAB2.out) _).setCell (by rw [add_blk]; exact HAB2.out) _).drew)
  generalize ((W5.setCell (a2.add P1) (Value.int .u8 (rd L (Q1 : Int)))).setCell (a2.add Q1) (Value.int .u8 (rd L (P1 : Int)))).drew = W6 at HBW6 HBC8 HBd6 ⊢
  have HSW := Lib.hid (show (C1.set P1 (rd L (Q1 : Int))).set Q1 (rd L (P1 : Int)) = swapF L p q by rw [← HC1.out, HPQ.out.1, HPQ.out.2.1, HPQ.out.2.2.1, HPQ.out.2.2.2]; rfl)
  rw [HSW.out] at HBC8
  have hip : 2 * p + 1 < L.length := by have := HN.out.2.2.1; rw [HPQ.out.2.2.1] at this; exact this
  have hiq : 2 * q + 1 < L.length := by have := HN.out.2.2.2; rw [HPQ.out.2.2.2] at this; exact this
  have HSS := Lib.hid (swap_sum L HB.out p q hip hiq)
  have HIP := Lib.hid hip
  clear hip hiq k1 k2 f1 f2 d1 d2 d3 f3 HBW5 HBC6 HBC7 HBd5 HCL HC1
  go_wp2_with fail
  refine (of_one (some a2) c2 L.length (swapF L p q) (swap_len L p q).symm r (by rw [HSS.out]; exact HRR.out) _ HBC8.out.C hc2 (swap_bytes HB.out p q) (by omega)).mono ?_
  rintro e w8 ⟨rfl, hb8⟩
  have HBW7 := Lib.hid (HBW6.out.bel hb8)
  have HBd7 := Lib.hid (bel HBd6.out hb8)
  clear hb8 HBW6 HBd6 HBC8
  have HX0 := Lib.hid (rd_bytes HB.out P)
  have HX1 := Lib.hid (rd_bytes HB.out P1)
  have k1 := HBW7.out.cell P HN.out.1
  have k2 := HBW7.out.cell P1 HN.out.2.2.1
  obtain ⟨o, ho⟩ : ∃ o, 256 * rd L (P : Int) + rd L (P1 : Int) = o := ⟨_, rfl⟩
  have HPS := Lib.hid (pair_sum L HB.out p HIP.out o b (by rw [← ho, HPQ.out.1, HPQ.out.2.2.1]) ⟨hb0, hb1⟩)
  generalize rd L (P : Int) = x0 at k1 HX0 ho
  generalize rd L (P1 : Int) = x1 at k2 HX1 ho
  have g1 : IntKind.i64.wrap x0 = x0 := by have := HX0.out; rw [IntKind.wrap_i64]; omega
  have g2 : IntKind.i64.wrap x1 = x1 := by have := HX1.out; rw [IntKind.wrap_i64]; omega
  have g3 : IntKind.i64.wrap (256 * x0) = 256 * x0 := by have := HX0.out; rw [IntKind.wrap_i64]; omega
  have g4 : IntKind.i64.wrap (256 * x0 + x1) = o := by have := HX0.out; have := HX1.out; rw [IntKind.wrap_i64]; omega
  have HO := Lib.hid ho
  have HO9 := Lib.hid (show 0 ≤ o ∧ o ≤ 65535 by have := HX0.out; have := HX1.out; omega)
  clear ho
  go_wp2_with fail
  go_quiet (fail)
  have HBW9 := Lib.hid (HBW7.out.bel (pw_below_drewN (Below.refl w8.heap.size w8) nq))
  have HBd9 := Lib.hid (pw_below_drewN HBd7.out nq)
  clear k1 k2 HBW7 HBd7
  generalize w8.drewN nq = w9 at HBW9 HBd9 ⊢
  have d1 := HBW9.out.cell P HN.out.1
  have f1 := HBW9.out.free P
  have HBW10 := Lib.hid (HBW9.out.put P (b / 256) HN.out.1)
  have d2 := HBW10.out.cell P1 (by simpa using HN.out.2.2.1)
  have f2 := HBW10.out.free P1
  have g5 : IntKind.u8.wrap (b / 256) = b / 256 := by rw [IntKind.wrap_u8]; omega
  have g6 : IntKind.u8.wrap (b % 256) = b % 256 := by rw [IntKind.wrap_u8]; omega
  go_upto_region 16 with (fail)
  have HBW11 : Hid (Bw ((w9.setCell (a.add P) (Value.int .u8 (b / 256))).setCell (a.add P1) (Value.int .u8 (b % 256))) a (pairF L p (b / 256) (b % 256))) := Lib.hid (by
    have h := HBW10.out.put P1 (b % 256) (by simpa using HN.out.2.2.1)
    rw [HPQ.out.1, HPQ.out.2.2.1] at h ⊢
    exact h)
  have HBd11 := Lib.hid ((HBd9.out.setCell (p := a.add P) (by rw [add_blk]; exact HAB.out) (Value.int .u8 (b / 256))).setCell (p := a.add P1) (by rw [add_blk]; exact HAB.out) (Value.int .u8 (b % 256)))
  generalize (w9.setCell (a.add P) (Value.int .u8 (b / 256))).setCell (a.add P1) (Value.int .u8 (b % 256)) = w11 at HBW11 HBd11 ⊢
  obtain ⟨r2, hr2⟩ : ∃ r2, (addF (0, 0) (pairF L p (b / 256) (b % 256))).1 = r2 := ⟨_, rfl⟩
  have HR2 := Lib.hid hr2
  have hrr : (addF (0, 0) L).1 = 65535 - r := by have := HRR.out; omega
  have hps := HPS.out
  rw [hr2, hrr] at hps
  have HR2B := Lib.hid ((addF_len _ (pair_bytes HB.out p (x := b / 256) (y := b % 256) ⟨by omega, by omega⟩ ⟨by omega, by omega⟩)).2)
  rw [hr2] at HR2B
  obtain ⟨hr21, hr22⟩ := HR2B.out
  have hrb := (addF_len L HB.out).2
  rw [hrr] at hrb
  obtain ⟨hrb1, hrb2⟩ := hrb
  obtain ⟨hps1, hps2⟩ := hps
  clear hr2 hrr d1 f1 d2 f2 HBW9 HBW10 HBd9 HPS HR2B g1 g2 g3 g4 g5 g6
  by_cases hob : o = b
  · have hrr2 : r2 = 65535 - r := hps1 hob
    have hbe : (o == b) = true := by simpa using hob
    have hq1 : (65535 - r2 == r) = true := by simp; omega
    have HRE := Lib.hid hrr2
    have HP2 := Lib.hid hps2
    clear hps1 hps2 hob hrr2
    go_wp2_with fail
    refine (known_any _).mono ?_
    rintro e w20 ⟨rfl, hb20⟩
    have HBd20 := Lib.hid (bel HBd11.out hb20)
    have HBW20 := Lib.hid (HBW11.out.bel hb20)
    clear hb20 HBd11 HBW11
    go_wp2_with fail
    refine (of_one (some a) c1 L.length (pairF L p (b / 256) (b % 256)) (by simp [pairF]) (65535 - r2) (by rw [HR2.out]) _ HBW20.out.C hc1 (pair_bytes HB.out p ⟨by omega, by omega⟩ ⟨by omega, by omega⟩) (by omega)).mono ?_
    rintro e w21 ⟨rfl, hb21⟩
    have HBd21 := Lib.hid (bel HBd20.out hb21)
    clear hb21 HBd20 HBW20
    go_wp2_with fail
    go_ret
    exact ⟨rfl, HBd21.out⟩
  · have hbe : (o == b) = false := by simpa using hob
    have HP1 := Lib.hid hps1
    clear hps1
    by_cases h1 : o = 0 ∧ b = 65535
    · obtain ⟨rfl, rfl⟩ := h1
      clear hps2
      go_wp2_with fail
      refine (known_any _).mono ?_
      rintro e w20 ⟨rfl, hb20⟩
      have HBd20 := Lib.hid (bel HBd11.out hb20)
      clear hb20 HBd11 HBW11
      go_wp2_with fail
      go_ret
      exact ⟨rfl, HBd20.out⟩
    · by_cases h2 : o = 65535 ∧ b = 0
      · obtain ⟨rfl, rfl⟩ := h2
        clear hps2
        go_wp2_with fail
        refine (known_any _).mono ?_
        rintro e w20 ⟨rfl, hb20⟩
        have HBd20 := Lib.hid (bel HBd11.out hb20)
        clear hb20 HBd11 HBW11
        go_wp2_with fail
        go_ret
        exact ⟨rfl, HBd20.out⟩
      · have hne := hps2 hob h1 h2
        have hq1 : (65535 - r2 == r) = false := by simp; omega
        clear hps2
        by_cases h3 : o = 0
        · subst h3
          have hb3 : (b == 65535) = false := by simp; omega
          clear h1 h2 hne
          go_wp2_with fail
          refine (known_any _).mono ?_
          rintro e w20 ⟨rfl, hb20⟩
          have HBd20 := Lib.hid (bel HBd11.out hb20)
          have HBW20 := Lib.hid (HBW11.out.bel hb20)
          clear hb20 HBd11 HBW11
          go_wp2_with fail
          refine (of_one (some a) c1 L.length (pairF L p (b / 256) (b % 256)) (by simp [pairF]) (65535 - r2) (by rw [HR2.out]) _ HBW20.out.C hc1 (pair_bytes HB.out p ⟨by omega, by omega⟩ ⟨by omega, by omega⟩) (by omega)).mono ?_
          rintro e w21 ⟨rfl, hb21⟩
          have HBd21 := Lib.hid (bel HBd20.out hb21)
          clear hb21 HBd20 HBW20
          go_wp2_with fail
          go_ret
          exact ⟨rfl, HBd21.out⟩
        · have ho3 : (o == 0) = false := by simpa using h3
          by_cases h4 : o = 65535
          · subst h4
            have hb4 : (b == 0) = false := by simp; omega
            clear h1 h2 hne h3
            go_wp2_with fail
            refine (known_any _).mono ?_
            rintro e w20 ⟨rfl, hb20⟩
            have HBd20 := Lib.hid (bel HBd11.out hb20)
            have HBW20 := Lib.hid (HBW11.out.bel hb20)
            clear hb20 HBd11 HBW11
            go_wp2_with fail
            refine (of_one (some a) c1 L.length (pairF L p (b / 256) (b % 256)) (by simp [pairF]) (65535 - r2) (by rw [HR2.out]) _ HBW20.out.C hc1 (pair_bytes HB.out p ⟨by omega, by omega⟩ ⟨by omega, by omega⟩) (by omega)).mono ?_
            rintro e w21 ⟨rfl, hb21⟩
            have HBd21 := Lib.hid (bel HBd20.out hb21)
            clear hb21 HBd20 HBW20
            go_wp2_with fail
            go_ret
            exact ⟨rfl, HBd21.out⟩
          · have ho4 : (o == 65535) = false := by simpa using h4
            clear h1 h2 hne h3 h4
            go_wp2_with fail
            refine (known_any _).mono ?_
            rintro e w20 ⟨rfl, hb20⟩
            have HBd20 := Lib.hid (bel HBd11.out hb20)
            have HBW20 := Lib.hid (HBW11.out.bel hb20)
            clear hb20 HBd11 HBW11
            go_wp2_with fail
            refine (of_one (some a) c1 L.length (pairF L p (b / 256) (b % 256)) (by simp [pairF]) (65535 - r2) (by rw [HR2.out]) _ HBW20.out.C hc1 (pair_bytes HB.out p ⟨by omega, by omega⟩ ⟨by omega, by omega⟩) (by omega)).mono ?_
            rintro e w21 ⟨rfl, hb21⟩
            have HBd21 := Lib.hid (bel HBd20.out hb21)
            clear hb21 HBd20 HBW20
            go_wp2_with fail
            go_ret
            exact ⟨rfl, HBd21.out⟩
set_option maxHeartbeats 8000000 in
theorem tells_odd (A : Option Addr) (cap : Nat) (z : List Int) (x m : Nat) (at' ot by' : Int) (hx : (if (300 : Int) < z.length then 300 else (z.length : Int)) = x) (hcap : z.length ≤ cap) (hzb : ∀ x ∈ z, 0 ≤ x ∧ x ≤ 255) (hm : x = 2 * m + 1) (hm0 : 0 < m) (w : World) (hz : Kd.C (Kd.int .u8) w A z.length z) :
    Calls Try.prog 8 #[.slice A z.length cap, .int .i64 at', .int .i64 ot, .int .i64 by'] w fun e w' => e = .returned (.bool true) ∧ Below w.heap.size w w' := by
  have hx1 : x ≤ z.length ∧ x ≤ 300 := by split at hx <;> omega
  obtain ⟨hx1, hx2⟩ := hx1
  have HC := Lib.hid (C_takeS hz hx1)
  have HB := Lib.hid (fun y (hy : y ∈ z.take x) => hzb y (List.mem_of_mem_take hy))
  have hxl : (z.take x).length = x := by simp; omega
  have hxc : x ≤ cap := by omega
  generalize z.take x = L at HC HB hxl
  clear hz hzb hx1
  have HM := Lib.hid hm
  obtain ⟨p, hp⟩ : ∃ p : Nat, (IntKind.u64.wrap at').tmod (m : Int) = p := by
    have h2 : 0 ≤ IntKind.u64.wrap at' := by rw [IntKind.wrap_u64]; omega
    rw [Int.tmod_eq_emod_of_nonneg h2]
    exact ⟨_, (Int.toNat_of_nonneg (Int.emod_nonneg _ (by omega))).symm⟩
  obtain ⟨q, hq⟩ : ∃ q : Nat, (IntKind.u64.wrap ot).tmod (m : Int) = q := by
    have h2 : 0 ≤ IntKind.u64.wrap ot := by rw [IntKind.wrap_u64]; omega
    rw [Int.tmod_eq_emod_of_nonneg h2]
    exact ⟨_, (Int.toNat_of_nonneg (Int.emod_nonneg _ (by omega))).symm⟩
  have hpm : p < m := by
    have h2 : 0 ≤ IntKind.u64.wrap at' := by rw [IntKind.wrap_u64]; omega
    rw [Int.tmod_eq_emod_of_nonneg h2] at hp
    have := Int.emod_lt_of_pos (IntKind.u64.wrap at') (show (0 : Int) < m by omega)
    omega
  have hqm : q < m := by
    have h2 : 0 ≤ IntKind.u64.wrap ot := by rw [IntKind.wrap_u64]; omega
    rw [Int.tmod_eq_emod_of_nonneg h2] at hq
    have := Int.emod_lt_of_pos (IntKind.u64.wrap ot) (show (0 : Int) < m by omega)
    omega
  obtain ⟨b, hb⟩ : ∃ b : Int, (IntKind.u64.wrap by').tmod 65536 = b := ⟨_, rfl⟩
  have hb01 : 0 ≤ b ∧ b ≤ 65535 := by
    have h2 : 0 ≤ IntKind.u64.wrap by' := by rw [IntKind.wrap_u64]; omega
    rw [Int.tmod_eq_emod_of_nonneg h2] at hb
    omega
  obtain ⟨hb0, hb1⟩ := hb01
  have e2 : IntKind.u64.wrap (m : Int) = m := by rw [IntKind.wrap_u64]; omega
  have e3 : IntKind.i64.wrap (p : Int) = p := by rw [IntKind.wrap_i64]; omega
  have e4 : IntKind.i64.wrap (q : Int) = q := by rw [IntKind.wrap_i64]; omega
  have e5 : IntKind.i64.wrap b = b := by rw [IntKind.wrap_i64]; omega
  have e6 : IntKind.u64.wrap (p : Int) = p := by rw [IntKind.wrap_u64]; omega
  have e7 : IntKind.u64.wrap (q : Int) = q := by rw [IntKind.wrap_u64]; omega
  have e8 : IntKind.u64.wrap b = b := by rw [IntKind.wrap_u64]; omega
  have hmz : ¬ (m : Int) = 0 := by omega
  have hpar : ((x : Int) % 2 == 1) = true := by rw [hm]; first | (simp; done) | (simp; omega)
  have hx3 : 3 ≤ x := by omega
  clear hm
  go_enter Try.func8, Try.ntmps8
  go_upto_region 6 with (first | ((with_reducible refine gate_builtin (b := .append) (xs := #[.tmp 13, .tmp 18]) rfl ?_); at_builtin; refine print_append_row_of (w0 := w) (Value.int .u8) (0 : Int) w.heap.size rfl (.tmp 13) (.tmp 18) 30 5 (.int .u8 0) 1 rfl Try.underlying30 infoB rfl (by decide) (fun _ => rfl) (.slice (some ⟨w.heap.size, 0, none⟩) 0 0) [] L A x cap rfl rfl (World.ownsRow_made w #[] 0 (Nat.le_refl _) (Nat.zero_le _) rfl) ?aR ?aB ?aS ?aL ?_; (case aR => have h := Kd.reads_of_C (enc := Value.int .u8) (d := (0 : Int)) (h1 := fun _ => rfl) (Kd.C_alloc HC.out (.cells #[] 5)); exact h); (case aB => exact below_new _ _); (case aS => exact size_new _ _); (case aL => first | omega | (simp; omega)); intro v1 w1 ho hb1 hg1 hat1; (rw [show ([] : List Int) ++ L = L from rfl, hxl] at ho); have HB1 := Lib.hid hb1; obtain ⟨a, c1, hv1, hc1, hab, hBw⟩ := Bw.of_own ho (by omega) (by omega); subst hv1; have HAB := Lib.hid hab; have HBW := Lib.hid hBw; clear hab hBw; clear ho hg1 hat1 hb1))
  have hadd : (⟨a.block, a.off + 1, none⟩ : Addr) = a.add 1 := by
    obtain ⟨g, o, cur, rfl, _⟩ := HBW.out
    rw [add_at]
  rw [hadd]
  clear hadd
  have HBW := Lib.hid (HBW.out.drop 1)
  have HBX := Lib.hid (fun y (hy : y ∈ L.drop 1) => HB.out y (List.mem_of_mem_drop hy))
  have HAB := Lib.hid (show w.heap.size ≤ (a.add 1).block by rw [add_blk]; exact HAB.out)
  have hl1 : (L.drop 1).length = x - 1 := by simp [hxl]
  have hcx : (L.drop 1).length ≤ c1 - 1 := by omega
  have HM := Lib.hid (show (L.drop 1).length = 2 * m by have := HM.out; omega)
  clear hc1 HB HC hxl
  generalize L.drop 1 = L at HBW HBX hl1 hcx HM
  generalize a.add 1 = a at HBW HAB ⊢
  generalize c1 - 1 = c1 at hcx ⊢
  have hx5 : 2 ≤ L.length := by omega
  have hx6 : L.length ≤ 300 := by omega
  rw [← hl1]
  have HB := HBX
  have hc1 := hcx
  clear HBX hcx hl1 hx3 hx2
  have hdv : (L.length : Int).tdiv 2 = m := by rw [HM.out, Int.tdiv_eq_ediv_of_nonneg (by omega)]; omega
  have hdv2 : (L.length : Int) / 2 = m := by rw [HM.out]; omega
  have ewm : IntKind.i64.wrap (m : Int) = m := by rw [IntKind.wrap_i64]; omega
  go_quiet (fail)
  have HBW2 := Lib.hid (Bw.bel HBW.out (pw_below_drewN (Below.refl w1.heap.size w1) nq))
  have HBd := Lib.hid (pw_below_drewN HB1.out nq)
  clear HBW HB1
  generalize w1.drewN nq = W1 at HBW2 HBd ⊢
  obtain ⟨r, hr⟩ : ∃ r : Int, 65535 - (addF (0, 0) L).1 = r := ⟨_, rfl⟩
  have HRR := Lib.hid hr
  clear hr
  go_wp2_with fail
  refine (of_one (some a) c1 L.length L rfl r HRR.out _ HBW2.out.C hc1 HB.out (by omega)).mono ?_
  rintro e w2 ⟨rfl, hb2⟩
  have HBW3 := Lib.hid (HBW2.out.bel hb2)
  have HBd2 := Lib.hid (bel HBd.out hb2)
  clear hb2 HBW2 HBd
  go_wp2_with (first | ((with_reducible refine gate_builtin (b := .append) (xs := #[.tmp 53, .tmp 54]) rfl ?_); at_builtin; refine print_append_row_of (w0 := w2) (Value.int .u8) (0 : Int) w2.heap.size rfl (.tmp 53) (.tmp 54) 30 5 (.int .u8 0) 1 rfl Try.underlying30 infoB rfl (by decide) (fun _ => rfl) (.slice (some ⟨w2.heap.size, 0, none⟩) 0 0) [] L (some a) L.length c1 rfl rfl (World.ownsRow_made w2 #[] 0 (Nat.le_refl _) (Nat.zero_le _) rfl) ?cR ?cB ?cS ?cL ?_; (case cR => have h := Kd.reads_of_C (enc := Value.int .u8) (d := (0 : Int)) (h1 := fun _ => rfl) (Kd.C_alloc HBW3.out.C (.cells #[] 5)); exact h); (case cB => exact below_new _ _); (case cS => exact size_new _ _); (case cL => first | omega | (simp; omega)); intro v3 w3 ho hb3 hg3 hat3; (rw [show ([] : List Int) ++ L = L from rfl] at ho); obtain ⟨a2, c2, hv3, hc2, hab2, hBw2⟩ := Bw.of_own ho (by omega) (by omega); subst hv3; have HBW4 := Lib.hid (HBW3.out.bel hb3); have HBC4 := Lib.hid hBw2; have HNE := Lib.hid (show a.block ≠ a2.block by have := HBW3.out.lt; omega); have HBd3 := Lib.hid (bel HBd2.out hb3); have HAB2 := Lib.hid (show w.heap.size ≤ a2.block by have := HBd2.out.size; omega); clear ho hg3 hat3 hb3 hab2 hBw2 HBW3 HBd2))
  (obtain ⟨P, hP⟩ : ∃ P : Nat, P = 2 * p := ⟨_, rfl⟩)
  (obtain ⟨Q, hQ⟩ : ∃ Q : Nat, Q = 2 * q := ⟨_, rfl⟩)
  (obtain ⟨P1, hP1⟩ : ∃ P1 : Nat, P1 = 2 * p + 1 := ⟨_, rfl⟩)
  (obtain ⟨Q1, hQ1⟩ : ∃ Q1 : Nat, Q1 = 2 * q + 1 := ⟨_, rfl⟩)
  have e9 : IntKind.i64.wrap (2 * (p : Int)) = (P : Int) := by rw [IntKind.wrap_i64]; omega
  have e10 : IntKind.i64.wrap (2 * (q : Int)) = (Q : Int) := by rw [IntKind.wrap_i64]; omega
  have e11 : IntKind.i64.wrap ((P : Int) + 1) = (P1 : Int) := by rw [IntKind.wrap_i64]; omega
  have e12 : IntKind.i64.wrap ((Q : Int) + 1) = (Q1 : Int) := by rw [IntKind.wrap_i64]; omega
  have HN := Lib.hid (show P < L.length ∧ Q < L.length ∧ P1 < L.length ∧ Q1 < L.length by have := HM.out; omega)
  have i1 : (0 : Int) ≤ P := by omega
  have i2 : (0 : Int) ≤ Q := by omega
  have i3 : (0 : Int) ≤ P1 := by omega
  have i4 : (0 : Int) ≤ Q1 := by omega
  have i5 : (P : Int) < L.length := by have := HN.out; omega
  have i6 : (Q : Int) < L.length := by have := HN.out; omega
  have i7 : (P1 : Int) < L.length := by have := HN.out; omega
  have i8 : (Q1 : Int) < L.length := by have := HN.out; omega
  have HPQ := Lib.hid (And.intro hP (And.intro hQ (And.intro hP1 hQ1)))
  clear hP hQ hP1 hQ1
  have k1 := HBW4.out.cell Q HN.out.2.1
  have k2 := HBW4.out.cell P HN.out.1
  have f1 := HBC4.out.free P
  have f2 := HBC4.out.free Q
  have d1 := HBC4.out.cell P HN.out.1
  have d2 := HBC4.out.cell Q HN.out.2.1
  have n1 : ∀ i j, (a.add i).block ≠ (a2.add j).block := fun i j => by rw [add_blk, add_blk]; exact HNE.out
  have HBC5 := Lib.hid (HBC4.out.put P (rd L (Q : Int)) HN.out.1)
  have d3 := HBC5.out.cell Q (by simpa using HN.out.2.1)
  have f3 := HBC5.out.free Q
  go_region_held3 (fun W => W.cell? (a.add Q) = some (.int .u8 (rd L (Q : Int))) ∧ W.cell? (a.add P) = some (.int .u8 (rd L (P : Int)))) (first | exact ⟨k1, k2⟩ | exact ⟨cell_far k1 (n1 _ _) _, cell_far k2 (n1 _ _) _⟩ | exact ⟨cell_far (cell_far k1 (n1 _ _) _) (n1 _ _) _, cell_far (cell_far k2 (n1 _ _) _) (n1 _ _) _⟩) (fail)
  have HBW5 : Hid (Bw ((w3.setCell (a2.add P) (Value.int .u8 (rd L (Q : Int)))).setCell (a2.add Q) (Value.int .u8 (rd L (P : Int)))).drew a L) := Lib.hid ((HBW4.out.far (by rw [add_blk]; exact HNE.out) _).far (by rw [add_blk]; exact HNE.out) _)
  have HBC6 : Hid (Bw ((w3.setCell (a2.add P) (Value.int .u8 (rd L (Q : Int)))).setCell (a2.add Q) (Value.int .u8 (rd L (P : Int)))).drew a2 ((L.set P (rd L (Q : Int))).set Q (rd L (P : Int)))) := Lib.hid (HBC5.out.put Q (rd L (P : Int)) (by simpa using HN.out.2.1))
  have HBd5 : Hid (Below w.heap.size w ((w3.setCell (a2.add P) (Value.int .u8 (rd L (Q : Int)))).setCell (a2.add Q) (Value.int .u8 (rd L (P : Int)))).drew) := Lib.hid (((HBd3.out.setCell (by rw [add_blk]; exact HAB2.out) _).setCell (by rw [add_blk]; exact HAB2.out) _).drew)
  generalize ((w3.setCell (a2.add P) (Value.int .u8 (rd L (Q : Int)))).setCell (a2.add Q) (Value.int .u8 (rd L (P : Int)))).drew = W5 at HBW5 HBC6 HBd5 ⊢
  have HCE := Lib.hid (Eq.refl ((L.set P (rd L (Q : Int))).set Q (rd L (P : Int))))
  generalize hC1 : (L.set P (rd L (Q : Int))).set Q (rd L (P : Int)) = C1 at HBC6 HCE
  have HC1 := Lib.hid hC1
  have HCL := Lib.hid (show C1.length = L.length by rw [← hC1]; simp)
  clear hC1 HCE k1 k2 f1 f2 d1 d2 d3 f3 HBW4 HBC4 HBC5 HBd3
  have k1 := HBW5.out.cell Q1 HN.out.2.2.2
  have k2 := HBW5.out.cell P1 HN.out.2.2.1
  have f1 := HBC6.out.free P1
  have f2 := HBC6.out.free Q1
  have d1 := HBC6.out.cell P1 (by rw [HCL.out]; exact HN.out.2.2.1)
  have d2 := HBC6.out.cell Q1 (by rw [HCL.out]; exact HN.out.2.2.2)
  have HBC7 := Lib.hid (HBC6.out.put P1 (rd L (Q1 : Int)) (by rw [HCL.out]; exact HN.out.2.2.1))
  have d3 := HBC7.out.cell Q1 (by rw [List.length_set, HCL.out]; exact HN.out.2.2.2)
  have f3 := HBC7.out.free Q1
  go_wp2_with fail
  go_region_held3 (fun W => W.cell? (a.add Q1) = some (.int .u8 (rd L (Q1 : Int))) ∧ W.cell? (a.add P1) = some (.int .u8 (rd L (P1 : Int)))) (first | exact ⟨k1, k2⟩ | exact ⟨cell_far k1 (n1 _ _) _, cell_far k2 (n1 _ _) _⟩ | exact ⟨cell_far (cell_far k1 (n1 _ _) _) (n1 _ _) _, cell_far (cell_far k2 (n1 _ _) _) (n1 _ _) _⟩) (fail)
  have HBW6 : Hid (Bw ((W5.setCell (a2.add P1) (Value.int .u8 (rd L (Q1 : Int)))).setCell (a2.add Q1) (Value.int .u8 (rd L (P1 : Int)))).drew a L) := Lib.hid ((HBW5.out.far (by rw [add_blk]; exact HNE.out) _).far (by rw [add_blk]; exact HNE.out) _)
  have HBC8 : Hid (Bw ((W5.setCell (a2.add P1) (Value.int .u8 (rd L (Q1 : Int)))).setCell (a2.add Q1) (Value.int .u8 (rd L (P1 : Int)))).drew a2 ((C1.set P1 (rd L (Q1 : Int))).set Q1 (rd L (P1 : Int)))) := Lib.hid (HBC7.out.put Q1 (rd L (P1 : Int)) (by rw [List.length_set, HCL.out]; exact HN.out.2.2.2))
  have HBd6 : Hid (Below w.heap.size w ((W5.setCell (a2.add P1) (Value.int .u8 (rd L (Q1 : Int)))).setCell (a2.add Q1) (Value.int .u8 (rd L (P1 : Int)))).drew) := Lib.hid (((HBd5.out.setCell (by rw [add_blk]; exact HAB2.out) _).setCell (by rw [add_blk]; exact HAB2.out) _).drew)
  generalize ((W5.setCell (a2.add P1) (Value.int .u8 (rd L (Q1 : Int)))).setCell (a2.add Q1) (Value.int .u8 (rd L (P1 : Int)))).drew = W6 at HBW6 HBC8 HBd6 ⊢
  have HSW := Lib.hid (show (C1.set P1 (rd L (Q1 : Int))).set Q1 (rd L (P1 : Int)) = swapF L p q by rw [← HC1.out, HPQ.out.1, HPQ.out.2.1, HPQ.out.2.2.1, HPQ.out.2.2.2]; rfl)
  rw [HSW.out] at HBC8
  have hip : 2 * p + 1 < L.length := by have := HN.out.2.2.1; rw [HPQ.out.2.2.1] at this; exact this
  have hiq : 2 * q + 1 < L.length := by have := HN.out.2.2.2; rw [HPQ.out.2.2.2] at this; exact this
  have HSS := Lib.hid (swap_sum L HB.out p q hip hiq)
  have HIP := Lib.hid hip
  clear hip hiq k1 k2 f1 f2 d1 d2 d3 f3 HBW5 HBC6 HBC7 HBd5 HCL HC1
  go_wp2_with fail
  refine (of_one (some a2) c2 L.length (swapF L p q) (swap_len L p q).symm r (by rw [HSS.out]; exact HRR.out) _ HBC8.out.C hc2 (swap_bytes HB.out p q) (by omega)).mono ?_
  rintro e w8 ⟨rfl, hb8⟩
  have HBW7 := Lib.hid (HBW6.out.bel hb8)
  have HBd7 := Lib.hid (bel HBd6.out hb8)
  clear hb8 HBW6 HBd6 HBC8
  have HX0 := Lib.hid (rd_bytes HB.out P)
  have HX1 := Lib.hid (rd_bytes HB.out P1)
  have k1 := HBW7.out.cell P HN.out.1
  have k2 := HBW7.out.cell P1 HN.out.2.2.1
  obtain ⟨o, ho⟩ : ∃ o, 256 * rd L (P : Int) + rd L (P1 : Int) = o := ⟨_, rfl⟩
  have HPS := Lib.hid (pair_sum L HB.out p HIP.out o b (by rw [← ho, HPQ.out.1, HPQ.out.2.2.1]) ⟨hb0, hb1⟩)
  generalize rd L (P : Int) = x0 at k1 HX0 ho
  generalize rd L (P1 : Int) = x1 at k2 HX1 ho
  have g1 : IntKind.i64.wrap x0 = x0 := by have := HX0.out; rw [IntKind.wrap_i64]; omega
  have g2 : IntKind.i64.wrap x1 = x1 := by have := HX1.out; rw [IntKind.wrap_i64]; omega
  have g3 : IntKind.i64.wrap (256 * x0) = 256 * x0 := by have := HX0.out; rw [IntKind.wrap_i64]; omega
  have g4 : IntKind.i64.wrap (256 * x0 + x1) = o := by have := HX0.out; have := HX1.out; rw [IntKind.wrap_i64]; omega
  have HO := Lib.hid ho
  have HO9 := Lib.hid (show 0 ≤ o ∧ o ≤ 65535 by have := HX0.out; have := HX1.out; omega)
  clear ho
  go_wp2_with fail
  go_quiet (fail)
  have HBW9 := Lib.hid (HBW7.out.bel (pw_below_drewN (Below.refl w8.heap.size w8) nq))
  have HBd9 := Lib.hid (pw_below_drewN HBd7.out nq)
  clear k1 k2 HBW7 HBd7
  generalize w8.drewN nq = w9 at HBW9 HBd9 ⊢
  have d1 := HBW9.out.cell P HN.out.1
  have f1 := HBW9.out.free P
  have HBW10 := Lib.hid (HBW9.out.put P (b / 256) HN.out.1)
  have d2 := HBW10.out.cell P1 (by simpa using HN.out.2.2.1)
  have f2 := HBW10.out.free P1
  have g5 : IntKind.u8.wrap (b / 256) = b / 256 := by rw [IntKind.wrap_u8]; omega
  have g6 : IntKind.u8.wrap (b % 256) = b % 256 := by rw [IntKind.wrap_u8]; omega
  go_upto_region 16 with (fail)
  have HBW11 : Hid (Bw ((w9.setCell (a.add P) (Value.int .u8 (b / 256))).setCell (a.add P1) (Value.int .u8 (b % 256))) a (pairF L p (b / 256) (b % 256))) := Lib.hid (by
    have h := HBW10.out.put P1 (b % 256) (by simpa using HN.out.2.2.1)
    rw [HPQ.out.1, HPQ.out.2.2.1] at h ⊢
    exact h)
  have HBd11 := Lib.hid ((HBd9.out.setCell (p := a.add P) (by rw [add_blk]; exact HAB.out) (Value.int .u8 (b / 256))).setCell (p := a.add P1) (by rw [add_blk]; exact HAB.out) (Value.int .u8 (b % 256)))
  generalize (w9.setCell (a.add P) (Value.int .u8 (b / 256))).setCell (a.add P1) (Value.int .u8 (b % 256)) = w11 at HBW11 HBd11 ⊢
  obtain ⟨r2, hr2⟩ : ∃ r2, (addF (0, 0) (pairF L p (b / 256) (b % 256))).1 = r2 := ⟨_, rfl⟩
  have HR2 := Lib.hid hr2
  have hrr : (addF (0, 0) L).1 = 65535 - r := by have := HRR.out; omega
  have hps := HPS.out
  rw [hr2, hrr] at hps
  have HR2B := Lib.hid ((addF_len _ (pair_bytes HB.out p (x := b / 256) (y := b % 256) ⟨by omega, by omega⟩ ⟨by omega, by omega⟩)).2)
  rw [hr2] at HR2B
  obtain ⟨hr21, hr22⟩ := HR2B.out
  have hrb := (addF_len L HB.out).2
  rw [hrr] at hrb
  obtain ⟨hrb1, hrb2⟩ := hrb
  obtain ⟨hps1, hps2⟩ := hps
  clear hr2 hrr d1 f1 d2 f2 HBW9 HBW10 HBd9 HPS HR2B g1 g2 g3 g4 g5 g6
  by_cases hob : o = b
  · have hrr2 : r2 = 65535 - r := hps1 hob
    have hbe : (o == b) = true := by simpa using hob
    have hq1 : (65535 - r2 == r) = true := by simp; omega
    have HRE := Lib.hid hrr2
    have HP2 := Lib.hid hps2
    clear hps1 hps2 hob hrr2
    go_wp2_with fail
    refine (known_any _).mono ?_
    rintro e w20 ⟨rfl, hb20⟩
    have HBd20 := Lib.hid (bel HBd11.out hb20)
    have HBW20 := Lib.hid (HBW11.out.bel hb20)
    clear hb20 HBd11 HBW11
    go_wp2_with fail
    refine (of_one (some a) c1 L.length (pairF L p (b / 256) (b % 256)) (by simp [pairF]) (65535 - r2) (by rw [HR2.out]) _ HBW20.out.C hc1 (pair_bytes HB.out p ⟨by omega, by omega⟩ ⟨by omega, by omega⟩) (by omega)).mono ?_
    rintro e w21 ⟨rfl, hb21⟩
    have HBd21 := Lib.hid (bel HBd20.out hb21)
    clear hb21 HBd20 HBW20
    go_wp2_with fail
    go_ret
    exact ⟨rfl, HBd21.out⟩
  · have hbe : (o == b) = false := by simpa using hob
    have HP1 := Lib.hid hps1
    clear hps1
    by_cases h1 : o = 0 ∧ b = 65535
    · obtain ⟨rfl, rfl⟩ := h1
      clear hps2
      go_wp2_with fail
      refine (known_any _).mono ?_
      rintro e w20 ⟨rfl, hb20⟩
      have HBd20 := Lib.hid (bel HBd11.out hb20)
      clear hb20 HBd11 HBW11
      go_wp2_with fail
      go_ret
      exact ⟨rfl, HBd20.out⟩
    · by_cases h2 : o = 65535 ∧ b = 0
      · obtain ⟨rfl, rfl⟩ := h2
        clear hps2
        go_wp2_with fail
        refine (known_any _).mono ?_
        rintro e w20 ⟨rfl, hb20⟩
        have HBd20 := Lib.hid (bel HBd11.out hb20)
        clear hb20 HBd11 HBW11
        go_wp2_with fail
        go_ret
        exact ⟨rfl, HBd20.out⟩
      · have hne := hps2 hob h1 h2
        have hq1 : (65535 - r2 == r) = false := by simp; omega
        clear hps2
        by_cases h3 : o = 0
        · subst h3
          have hb3 : (b == 65535) = false := by simp; omega
          clear h1 h2 hne
          go_wp2_with fail
          refine (known_any _).mono ?_
          rintro e w20 ⟨rfl, hb20⟩
          have HBd20 := Lib.hid (bel HBd11.out hb20)
          have HBW20 := Lib.hid (HBW11.out.bel hb20)
          clear hb20 HBd11 HBW11
          go_wp2_with fail
          refine (of_one (some a) c1 L.length (pairF L p (b / 256) (b % 256)) (by simp [pairF]) (65535 - r2) (by rw [HR2.out]) _ HBW20.out.C hc1 (pair_bytes HB.out p ⟨by omega, by omega⟩ ⟨by omega, by omega⟩) (by omega)).mono ?_
          rintro e w21 ⟨rfl, hb21⟩
          have HBd21 := Lib.hid (bel HBd20.out hb21)
          clear hb21 HBd20 HBW20
          go_wp2_with fail
          go_ret
          exact ⟨rfl, HBd21.out⟩
        · have ho3 : (o == 0) = false := by simpa using h3
          by_cases h4 : o = 65535
          · subst h4
            have hb4 : (b == 0) = false := by simp; omega
            clear h1 h2 hne h3
            go_wp2_with fail
            refine (known_any _).mono ?_
            rintro e w20 ⟨rfl, hb20⟩
            have HBd20 := Lib.hid (bel HBd11.out hb20)
            have HBW20 := Lib.hid (HBW11.out.bel hb20)
            clear hb20 HBd11 HBW11
            go_wp2_with fail
            refine (of_one (some a) c1 L.length (pairF L p (b / 256) (b % 256)) (by simp [pairF]) (65535 - r2) (by rw [HR2.out]) _ HBW20.out.C hc1 (pair_bytes HB.out p ⟨by omega, by omega⟩ ⟨by omega, by omega⟩) (by omega)).mono ?_
            rintro e w21 ⟨rfl, hb21⟩
            have HBd21 := Lib.hid (bel HBd20.out hb21)
            clear hb21 HBd20 HBW20
            go_wp2_with fail
            go_ret
            exact ⟨rfl, HBd21.out⟩
          · have ho4 : (o == 65535) = false := by simpa using h4
            clear h1 h2 hne h3 h4
            go_wp2_with fail
            refine (known_any _).mono ?_
            rintro e w20 ⟨rfl, hb20⟩
            have HBd20 := Lib.hid (bel HBd11.out hb20)
            have HBW20 := Lib.hid (HBW11.out.bel hb20)
            clear hb20 HBd11 HBW11
            go_wp2_with fail
            refine (of_one (some a) c1 L.length (pairF L p (b / 256) (b % 256)) (by simp [pairF]) (65535 - r2) (by rw [HR2.out]) _ HBW20.out.C hc1 (pair_bytes HB.out p ⟨by omega, by omega⟩ ⟨by omega, by omega⟩) (by omega)).mono ?_
            rintro e w21 ⟨rfl, hb21⟩
            have HBd21 := Lib.hid (bel HBd20.out hb21)
            clear hb21 HBd20 HBW20
            go_wp2_with fail
            go_ret
            exact ⟨rfl, HBd21.out⟩
set_option maxHeartbeats 8000000 in
theorem tells_none (A : Option Addr) (cap : Nat) (z : List Int) (x m : Nat) (at' ot by' : Int) (hx : (if (300 : Int) < z.length then 300 else (z.length : Int)) = x) (hcap : z.length ≤ cap) (hzb : ∀ x ∈ z, 0 ≤ x ∧ x ≤ 255) (hm : x = 0) (w : World) (hz : Kd.C (Kd.int .u8) w A z.length z) :
    Calls Try.prog 8 #[.slice A z.length cap, .int .i64 at', .int .i64 ot, .int .i64 by'] w fun e w' => e = .returned (.bool true) ∧ Below w.heap.size w w' := by
  have hx1 : x ≤ z.length ∧ x ≤ 300 := by split at hx <;> omega
  obtain ⟨hx1, hx2⟩ := hx1
  have HC := Lib.hid (C_takeS hz hx1)
  have HB := Lib.hid (fun y (hy : y ∈ z.take x) => hzb y (List.mem_of_mem_take hy))
  have hxl : (z.take x).length = x := by simp; omega
  have hxc : x ≤ cap := by omega
  generalize z.take x = L at HC HB hxl
  clear hz hzb hx1
  have hpar : ((x : Int) % 2 == 1) = false := by rw [hm]; rfl
  have HX3 := Lib.hid (show x < 2 ∧ 0 ≤ x by omega)
  clear hm
  go_enter Try.func8, Try.ntmps8
  go_wp2_with (first | ((with_reducible refine gate_builtin (b := .append) (xs := #[.tmp 13, .tmp 18]) rfl ?_); at_builtin; refine print_append_row_of (w0 := w) (Value.int .u8) (0 : Int) w.heap.size rfl (.tmp 13) (.tmp 18) 30 5 (.int .u8 0) 1 rfl Try.underlying30 infoB rfl (by decide) (fun _ => rfl) (.slice (some ⟨w.heap.size, 0, none⟩) 0 0) [] L A x cap rfl rfl (World.ownsRow_made w #[] 0 (Nat.le_refl _) (Nat.zero_le _) rfl) ?aR ?aB ?aS ?aL ?_; (case aR => have h := Kd.reads_of_C (enc := Value.int .u8) (d := (0 : Int)) (h1 := fun _ => rfl) (Kd.C_alloc HC.out (.cells #[] 5)); exact h); (case aB => exact below_new _ _); (case aS => exact size_new _ _); (case aL => first | omega | (simp; omega)); intro v1 w1 ho hb1 hg1 hat1; (rw [show ([] : List Int) ++ L = L from rfl, hxl] at ho); obtain ⟨hx3, hx4⟩ := HX3.out; have HB1 := Lib.hid hb1; obtain ⟨A1, c1, hv1, hc1⟩ := own_slice4 ho; subst hv1; clear ho hg1 hat1 hb1))
  refine (known_any _).mono ?_
  rintro e w2 ⟨rfl, hb2⟩
  have HBd := Lib.hid (bel HB1.out hb2)
  clear hb2
  go_wp2_with fail
  go_ret
  exact ⟨rfl, HBd.out⟩
set_option maxHeartbeats 8000000 in
theorem tells_one (A : Option Addr) (cap : Nat) (z : List Int) (x m : Nat) (at' ot by' : Int) (hx : (if (300 : Int) < z.length then 300 else (z.length : Int)) = x) (hcap : z.length ≤ cap) (hzb : ∀ x ∈ z, 0 ≤ x ∧ x ≤ 255) (hm : x = 1) (w : World) (hz : Kd.C (Kd.int .u8) w A z.length z) :
    Calls Try.prog 8 #[.slice A z.length cap, .int .i64 at', .int .i64 ot, .int .i64 by'] w fun e w' => e = .returned (.bool true) ∧ Below w.heap.size w w' := by
  have hx1 : x ≤ z.length ∧ x ≤ 300 := by split at hx <;> omega
  obtain ⟨hx1, hx2⟩ := hx1
  have HC := Lib.hid (C_takeS hz hx1)
  have HB := Lib.hid (fun y (hy : y ∈ z.take x) => hzb y (List.mem_of_mem_take hy))
  have hxl : (z.take x).length = x := by simp; omega
  have hxc : x ≤ cap := by omega
  generalize z.take x = L at HC HB hxl
  clear hz hzb hx1
  have hpar : ((x : Int) % 2 == 1) = true := by rw [hm]; rfl
  have HX3 := Lib.hid (show x < 2 ∧ 1 ≤ x by omega)
  clear hm
  go_enter Try.func8, Try.ntmps8
  go_wp2_with (first | ((with_reducible refine gate_builtin (b := .append) (xs := #[.tmp 13, .tmp 18]) rfl ?_); at_builtin; refine print_append_row_of (w0 := w) (Value.int .u8) (0 : Int) w.heap.size rfl (.tmp 13) (.tmp 18) 30 5 (.int .u8 0) 1 rfl Try.underlying30 infoB rfl (by decide) (fun _ => rfl) (.slice (some ⟨w.heap.size, 0, none⟩) 0 0) [] L A x cap rfl rfl (World.ownsRow_made w #[] 0 (Nat.le_refl _) (Nat.zero_le _) rfl) ?aR ?aB ?aS ?aL ?_; (case aR => have h := Kd.reads_of_C (enc := Value.int .u8) (d := (0 : Int)) (h1 := fun _ => rfl) (Kd.C_alloc HC.out (.cells #[] 5)); exact h); (case aB => exact below_new _ _); (case aS => exact size_new _ _); (case aL => first | omega | (simp; omega)); intro v1 w1 ho hb1 hg1 hat1; (rw [show ([] : List Int) ++ L = L from rfl, hxl] at ho); obtain ⟨hx3, hx4⟩ := HX3.out; (have hx6 : ((x - 1 : Nat) : Int) < 2 := by omega); have HB1 := Lib.hid hb1; obtain ⟨a, c1, hv1, hc1, hab, hBw⟩ := Bw.of_own ho (by omega) (by omega); subst hv1; have HAB := Lib.hid hab; have HBW := Lib.hid hBw; clear hab hBw; clear ho hg1 hat1 hb1))
  all_goals
    refine (known_any _).mono ?_
    rintro e w2 ⟨rfl, hb2⟩
    have HBd := Lib.hid (bel HB1.out hb2)
    clear hb2
    go_wp2_with fail
    go_ret
    exact ⟨rfl, HBd.out⟩
theorem wf_bdS {n : Int} (h : (Lit.int .i64 n).wf = true) : -9223372036854775808 ≤ n ∧ n ≤ 9223372036854775807 := by
  simp [Lit.wf, IntKind.min, IntKind.max, IntKind.signed, IntKind.bits] at h
  omega
theorem tells_row (a0 : Option Addr) (cap0 : Nat) (z0 : List (Int)) (a1 : Int) (a2 : Int) (a3 : Int) (w : World) (w0 : Kd.C (Kd.int .u8) w a0 z0.length z0) (m0 : z0.length ≤ cap0) (o0 : (z0.length ≤ maxLen ∧ ∀ x0 ∈ z0, (Lit.int .u8 x0).wf = true)) (y0 : z0.length * Try.prog.bytesOf 5 ≤ 140737488351232) (w1 : (Lit.int .i64 a1).wf = true) (w2 : (Lit.int .i64 a2).wf = true) (w3 : (Lit.int .i64 a3).wf = true) :
    Calls Try.prog 8 #[.slice a0 z0.length cap0, .int .i64 a1, .int .i64 a2, .int .i64 a3] w fun e w' => e = .returned (.bool true) ∧ Below w.heap.size w w' := by
  have hx : (if (300 : Int) < z0.length then 300 else (z0.length : Int)) = ((min z0.length 300 : Nat) : Int) := by split <;> omega
  have hb : ∀ x ∈ z0, 0 ≤ x ∧ x ≤ 255 := fun x hx => wf_u8 (o0.2 x hx)
  generalize min z0.length 300 = x at hx
  by_cases h0 : x = 0
  · exact tells_none a0 cap0 z0 x 0 a1 a2 a3 hx m0 hb h0 w w0
  · by_cases h1 : x = 1
    · exact tells_one a0 cap0 z0 x 0 a1 a2 a3 hx m0 hb h1 w w0
    · by_cases h2 : x % 2 = 0
      · exact tells_even a0 cap0 z0 x (x / 2) a1 a2 a3 hx m0 hb (by omega) (by omega) w w0
      · exact tells_odd a0 cap0 z0 x (x / 2) a1 a2 a3 hx m0 hb (by omega) (by omega) w w0
end Go.Proofs.Ytnbglbehdjhmcaa.Sum
