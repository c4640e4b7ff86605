/- Whatever is read, what is told and what was wrong first is the document's: the law's walk. -/
import Derived.Test.YtnbglbehdjhmcaaPackPeek
import Derived.Test.YtnbglbehdjhmcaaPackKnown
set_option maxRecDepth 100000
set_option linter.unusedVariables false
set_option linter.unusedSimpArgs false
namespace Go.Proofs.Ytnbglbehdjhmcaa.Pk
open Go.RowKit Go.Proofs.YtnbglbehdjhmcaaW.PrintWords
theorem infoB8 : (Try.prog.info? 5).map (fun i => (i.zero, i.size, i.bytes)) = some (some (.int .u8 0), 1, 1) := by kernel_rfl
theorem cell_fld {w : World} {a : Addr} {i j : Nat} {v : Option Value} (h : w.cell? (a.add (i + (j + 1))) = v) : w.cell? ⟨(a.add i).block, (a.add i).off + (j + 1), none⟩ = v := by
  rw [← h]
  congr 1
  unfold Addr.add
  by_cases hi : i = 0
  · subst hi; simp
  · rw [if_neg hi, if_neg (by omega)]; simp; omega
theorem tm_bd (x M : Int) (h0 : 0 < M) : 0 ≤ (IntKind.u64.wrap x).tmod M ∧ (IntKind.u64.wrap x).tmod M < M := by
  have h2 : 0 ≤ IntKind.u64.wrap x := by rw [IntKind.wrap_u64]; omega
  rw [Int.tmod_eq_emod_of_nonneg h2]
  exact ⟨Int.emod_nonneg _ (by omega), Int.emod_lt_of_pos _ h0⟩
/-- The program's cursor and the document's, and all that stays. -/
structure Ag (w0 w : World) (g1 gd gw : Nat) (A0 : Option Addr) (c0 : Nat) (l : List Int) (Av : Option Addr) (cv p : Nat) (r : Int) (p2 : Nat) (r2 : Int) : Prop where
  cs : Cs w g1 A0 c0 l p r
  rf : Rf w gd gw l p2 r2
  was : w.ownsRow w0.heap.size 5 1 (.slice Av l.length cv) l.length (encs (Value.int .u8) l)
  bl : Below w0.heap.size w0 w
  hp : p ≤ l.length
  hp2 : p2 ≤ l.length
  h0 : w0.heap.size ≤ gw
  h1 : gw < g1
  h2 : g1 < gd
  h3 : gd < w.heap.size
  hv : ∀ ad, Av = some ad → ad.block = gw
  hA : 0 < l.length → ∀ ad, A0 = some ad → ad.block < w0.heap.size
theorem Ag.below {w0 w w' : World} {g1 gd gw : Nat} {A0 : Option Addr} {c0 : Nat} {l : List Int} {Av : Option Addr} {cv p : Nat} {r : Int} {p2 : Nat} {r2 : Int} (h : Ag w0 w g1 gd gw A0 c0 l Av cv p r p2 r2) (hb : Below w.heap.size w w') : Ag w0 w' g1 gd gw A0 c0 l Av cv p r p2 r2 :=
  ⟨h.cs.bel hb, h.rf.bel hb, pw_own_below h.was hb, bel h.bl hb, h.hp, h.hp2, h.h0, h.h1, h.h2, Nat.lt_of_lt_of_le h.h3 hb.size, h.hv, h.hA⟩
theorem Ag.keep {w0 w w' : World} {g1 gd gw : Nat} {A0 : Option Addr} {c0 : Nat} {l : List Int} {Av : Option Addr} {cv p : Nat} {r : Int} {p2 : Nat} {r2 : Int} {g : Nat} (h : Ag w0 w g1 gd gw A0 c0 l Av cv p r p2 r2) (hk : Kp w w' (fun k => k = g)) (hg : gw < g) : w'.ownsRow w0.heap.size 5 1 (.slice Av l.length cv) l.length (encs (Value.int .u8) l) ∧ Below w0.heap.size w0 w' ∧ gd < w'.heap.size :=
  ⟨own_move h.was (fun k hk2 => hk.kept.2 k (own_lt h.was k hk2) (fun e => by
    have : k = gw := by
      cases Av with
      | none => cases hk2
      | some ad => injection hk2 with hk2; rw [← hk2]; exact h.hv ad rfl
    omega)), h.bl.trans (hk.to h.bl.size (fun k hk => by rw [hk]; have := h.h0; omega)), Nat.lt_of_lt_of_le h.h3 hk.kept.1⟩
theorem Ag.prog {w0 w w' : World} {g1 gd gw : Nat} {A0 : Option Addr} {c0 : Nat} {l : List Int} {Av : Option Addr} {cv p : Nat} {r : Int} {p2 : Nat} {r2 : Int} {p' : Nat} {r' : Int} (h : Ag w0 w g1 gd gw A0 c0 l Av cv p r p2 r2) (hk : Kp w w' (fun k => k = g1)) (hc : Cs w' g1 A0 c0 l p' r') (hp : p' ≤ l.length) : Ag w0 w' g1 gd gw A0 c0 l Av cv p' r' p2 r2 :=
  ⟨hc, h.rf.kp hk (by have := h.h2; omega) (by have := h.h1; omega), (h.keep hk h.h1).1, (h.keep hk h.h1).2.1, hp, h.hp2, h.h0, h.h1, h.h2, (h.keep hk h.h1).2.2, h.hv, h.hA⟩
theorem Ag.ref {w0 w w' : World} {g1 gd gw : Nat} {A0 : Option Addr} {c0 : Nat} {l : List Int} {Av : Option Addr} {cv p : Nat} {r : Int} {p2 : Nat} {r2 : Int} {p' : Nat} {r' : Int} (h : Ag w0 w g1 gd gw A0 c0 l Av cv p r p2 r2) (hk : Kp w w' (fun k => k = gd)) (hc : Rf w' gd gw l p' r') (hp : p' ≤ l.length) : Ag w0 w' g1 gd gw A0 c0 l Av cv p r p' r' :=
  ⟨h.cs.other hk (by have := h.h2; omega) (fun h0 ad he => by have h1 := h.hA h0 ad he; have h2 := h.h0; have h3 := h.h1; have h4 := h.h2; omega), hc, (h.keep hk (by have := h.h1; have := h.h2; omega)).1, (h.keep hk (by have := h.h1; have := h.h2; omega)).2.1, h.hp, hp, h.h0, h.h1, h.h2, (h.keep hk (by have := h.h1; have := h.h2; omega)).2.2, h.hv, h.hA⟩
theorem Ag.far {w0 w w' : World} {g1 gd gw : Nat} {A0 : Option Addr} {c0 : Nat} {l : List Int} {Av : Option Addr} {cv p : Nat} {r : Int} {p2 : Nat} {r2 : Int} {g : Nat} (h : Ag w0 w g1 gd gw A0 c0 l Av cv p r p2 r2) (hk : Kp w w' (fun k => k = g)) (hg : gd < g) : Ag w0 w' g1 gd gw A0 c0 l Av cv p r p2 r2 :=
  ⟨h.cs.other hk (by have := h.h2; omega) (fun h0 ad he => by have h1 := h.hA h0 ad he; have h2 := h.h0; have h3 := h.h1; have h4 := h.h2; omega), h.rf.kp hk (by omega) (by have := h.h1; have := h.h2; omega), (h.keep hk (by have := h.h1; have := h.h2; omega)).1, (h.keep hk (by have := h.h1; have := h.h2; omega)).2.1, h.hp, h.hp2, h.h0, h.h1, h.h2, (h.keep hk (by have := h.h1; have := h.h2; omega)).2.2, h.hv, h.hA⟩
theorem tp_le {len p : Nat} {r k : Int} (hp : p ≤ len) : (if r = 0 ∧ spanF k = 0 then p else np len p r k) ≤ len := by
  split
  · exact hp
  · exact np_le hp
theorem C_lt {w : World} {ad : Addr} {n : Nat} {k : IntKind} {l : List Int} (h : Kd.C (Kd.int k) w (some ad) n l) (h0 : 0 < n) : ad.block < w.heap.size := by
  obtain ⟨a, ha, hc⟩ := Kd.at_int h 0 (by omega) (by omega)
  cases ha
  have := World.block_lt_of_cell? _ _ hc
  rwa [add_block] at this
theorem ml_len {l : List Int} {p : Nat} {r k m : Int} (hp : p ≤ l.length) : (ml l p r k m).length ≤ l.length := by
  by_cases h : mr l.length p r k m = 0
  · have h2 := mp_le (r := r) (k := k) (m := m) hp
    unfold mp at h2
    rw [if_pos h] at h2
    unfold ml
    rw [if_pos h, many_len]
    have hs : spanF k ≠ 0 := fun hs => by
      unfold mr at h
      by_cases hr : r = 0
      · rw [if_neg (fun h => h hr), if_pos (.inl hs)] at h; omega
      · rw [if_pos hr] at h; exact hr h
    have hk := span_sizes hs
    have h3 : m.toNat ≤ m.toNat * k.toNat := Nat.le_mul_of_pos_right _ (by omega)
    omega
  · unfold ml
    rw [if_neg h]; simp
theorem nl_le {l : List Int} {p : Nat} {r k : Int} (hp : p ≤ l.length) : (nl l p r k).length ≤ l.length := by
  by_cases h0 : nr l.length p r k = 0
  · have := nr_zero h0; rw [nl_len hp h0]; omega
  · rw [nl_bad h0]; simp
theorem C_dr {w : World} {A : Option Addr} {n : Nat} {l : List Int} (h : Kd.C (Kd.int .u8) w A n l) (m : Nat) : Kd.C (Kd.int .u8) (w.drewN m) A n l := Kd.C_below h (pw_below_drewN (Below.refl _ _) m)
theorem was_blk {w1 : World} {b n c : Nat} {A : Option Addr} {xs : List Value} (ho : w1.ownsRow b 5 1 (.slice A n c) n xs) (hb : b < w1.heap.size) : ∃ gw, (∀ ad, A = some ad → ad.block = gw) ∧ b ≤ gw ∧ gw < w1.heap.size := by
  cases A with
  | none => exact ⟨b, fun ad h => (by cases h), Nat.le_refl _, hb⟩
  | some ad => exact ⟨ad.block, fun a h => (by cases h; rfl), Go.Proofs.YtnbglbehdjhmcaaW.PrintWords.own_base ho ad.block rfl, own_lt ho ad.block rfl⟩
theorem kp_blk2 {w w' : World} {g g' : Nat} {o : Obj} (hk : Kp w w' (fun k => k = g')) (h : w.heap[g]? = some o) (hne : g ≠ g') : w'.heap[g]? = some o := kp_blk h hk hne
theorem own_rf {w w' : World} {g gw : Nat} {l : List Int} {p : Nat} {r : Int} {base e s n : Nat} {v : Value} {xs : List Value} (hk : Kp w w' (fun k => k = g)) (h : w.ownsRow base e s v n xs) (hr : Rf w g gw l p r) (hne : e ≠ 50) : w'.ownsRow base e s v n xs := by
  obtain ⟨A, c, h1, _⟩ := hr
  exact own_kp h hk h1 hne
theorem rf_drewN {w : World} {g gw : Nat} {l : List Int} {p : Nat} {r : Int} (h : Rf w g gw l p r) (n : Nat) : Rf (w.drewN n) g gw l p r := h.bel (pw_below_drewN (Below.refl _ _) n)
theorem cs_drewN {w : World} {g : Nat} {A : Option Addr} {c : Nat} {l : List Int} {p : Nat} {r : Int} (h : Cs w g A c l p r) (n : Nat) : Cs (w.drewN n) g A c l p r := h.bel (pw_below_drewN (Below.refl _ _) n)
theorem cs_drew {w : World} {g : Nat} {A : Option Addr} {c : Nat} {l : List Int} {p : Nat} {r : Int} (h : Cs w g A c l p r) : Cs w.drew g A c l p r := h.bel (Below.refl _ _).drew
theorem left_q (g : Nat) (A : Option Addr) (c : Nat) (l : List Int) (p : Nat) (r : Int) (w : World) (h : Cu w g A l.length c p r) (hp : p ≤ l.length) (hl : l.length ≤ 1000000) : Calls Try.prog 23 #[.pointer (some ⟨g, 0, none⟩)] w fun e w' => e = .returned (.int .i64 ((l.length - p : Nat) : Int)) ∧ ∃ m, w' = w.drewN m :=
  (Left_any g A l.length c p r w h (by omega) (by omega) (by omega)).mono (by rintro e w' ⟨rfl, h⟩; exact ⟨by rw [show ((l.length - p : Nat) : Int) = (l.length : Int) - p by omega], h⟩)
theorem close_q (g : Nat) (A : Option Addr) (c : Nat) (l : List Int) (p : Nat) (r q : Int) (hq : (if r = 0 then (if 0 < (l.length : Int) - p then 3 else 0) else r) = q) (w : World) (h : Cu w g A l.length c p r) (hp : p ≤ l.length) (hl : l.length ≤ 1000000) :
    Calls Try.prog 25 #[.pointer (some ⟨g, 0, none⟩)] w fun e w' => e = .returned (.int .i64 q) ∧ ∃ m, w' = w.drewN m := by
  subst hq
  by_cases hr : r = 0
  · subst hr
    rw [if_pos rfl]
    exact close_ok g A l.length c p _ w h (by omega) (by omega) (by omega) rfl
  · rw [if_neg hr]
    refine (close_was g A l.length c p r w h hr).mono ?_
    rintro e w' ⟨rfl, rfl⟩
    exact ⟨rfl, 0, rfl⟩
theorem rclose_q (g gw : Nat) (l : List Int) (p : Nat) (r q : Int) (hq : (if r = 0 then (if 0 < (l.length : Int) - p then 3 else 0) else r) = q) (w : World) (h : Rf w g gw l p r) (hp : p ≤ l.length) (hl : l.length ≤ 100000) :
    Calls Try.prog 36 #[.pointer (some ⟨g, 0, none⟩)] w fun e w' => e = .returned (.int .i64 q) ∧ ∃ m, w' = w.drewN m := by
  subst hq
  exact rclose_step g gw l p r w h hp hl
set_option maxHeartbeats 200000000 in
theorem reads_walk (A0 : Option Addr) (cap : Nat) (z : List Int) (x : Nat) (B : Option Addr) (cl : Nat) (acts : List (Int × Int × Int)) (hx : (if (300 : Int) < z.length then 300 else (z.length : Int)) = x) (hcap : z.length ≤ cap) (hcap2 : cap ≤ 9223372036854775807) (hA0 : A0 = none → cap = 0) (hzb : ∀ x ∈ z, 0 ≤ x ∧ x ≤ 255) (hacl : acts.length ≤ cl) (w : World) (hz : Kd.C (Kd.int .u8) w A0 z.length z) (hacts : Kd.C (Kd.pair (Kd.int .i64) (Kd.pair (Kd.int .i64) (Kd.int .i64))) w B acts.length acts) :
    Calls Try.prog 6 #[.slice A0 z.length cap, .slice B acts.length cl] w fun e w' => e = .returned (.bool true) ∧ Below w.heap.size w w' := by
  have hx1 : x ≤ z.length ∧ x ≤ 300 := by split at hx <;> omega
  obtain ⟨hx1, hx2⟩ := hx1
  have HC := Lib.hid (C_take hz hx1)
  have HBy := Lib.hid (fun y (hy : y ∈ z.take x) => hzb y (List.mem_of_mem_take hy))
  have hxl : (z.take x).length = x := by simp; omega
  have hxc : x ≤ cap := by omega
  have HAc := Lib.hid hacts
  have HA0 := Lib.hid hA0
  generalize z.take x = l at HC HBy hxl
  clear hz hzb hx1 hacts hA0
  go_enter Try.func6, Try.ntmps6
  go_wp2_with (first | ((with_reducible refine gate_builtin (b := .append) (xs := #[.tmp 27, .tmp 28]) rfl ?_); at_builtin; refine print_append_row_of (w0 := w) (Value.int .u8) (0 : Int) w.heap.size rfl (.tmp 27) (.tmp 28) 30 5 (.int .u8 0) 1 rfl Try.underlying30 infoB8 rfl (by decide) (fun _ => rfl) (.slice (some ⟨w.heap.size, 0, none⟩) 0 0) [] l A0 x cap rfl rfl (World.ownsRow_made w #[] 0 (Nat.le_refl _) (Nat.zero_le _) rfl) ?aR ?aB ?aS ?aL ?_; (case aR => have h := Kd.reads_of_C (enc := Value.int .u8) (d := (0 : Int)) (h1 := fun _ => rfl) (Kd.C_alloc HC.out (.cells #[] 5)); exact h); (case aB => exact below_new _ _); (case aS => exact size_new _ _); (case aL => first | omega | (simp; omega)); intro v1 w1 ho hb1 hg1 hat1; (rw [show ([] : List Int) ++ l = l from rfl] at ho); obtain ⟨Av, cv, hv1, hcv, hcv2, hav⟩ := own_slice3 ho; subst hv1; have HO := Lib.hid ho; have HB1 := Lib.hid hb1; have HAV := Lib.hid hav; obtain ⟨gw, hgv, hgw1, hgw2⟩ := was_blk ho (show w.heap.size < w1.heap.size by have h1 := hg1.size; have h2 : (w.alloc (.cells #[] 5)).heap.size = w.heap.size + 1 := (by show (w.heap.push _).size = _; simp); omega); have HGV := Lib.hid hgv; have HGW := Lib.hid (And.intro hgw1 hgw2); clear ho hb1 hg1 hat1 hav hgv hgw1 hgw2))
  subst hxl
  refine (over_any A0 l.length cap _).mono ?_
  rintro e w2 ⟨rfl, hcu, hb2⟩
  have HCU := Lib.hid hcu
  have HO2 := Lib.hid (pw_own_below HO.out hb2)
  have HB2 := Lib.hid (bel HB1.out hb2)
  have HGL := Lib.hid (blk_lt hcu)
  clear hcu hb2 HO
  go_wp2_with fail
  have hlc : l.length ≤ cap := hxc
  (obtain ⟨g1, hg1⟩ : ∃ g1, w1.heap.size = g1 := ⟨_, rfl⟩)
  rw [hg1] at HCU HGL
  simp only [hg1]
  (obtain ⟨gd, hgd⟩ : ∃ gd, w2.heap.size = gd := ⟨_, rfl⟩)
  simp only [hgd]
  have HA : Hid (Ag w (w2.alloc (.cells #[.slice Av l.length cv, .int .i64 0, .int .i64 0] 50)) g1 gd gw A0 cap l Av cv 0 0 0 0) := Lib.hid (by
    have hb := below_new w2 (.cells #[.slice Av l.length cv, .int .i64 0, .int .i64 0] 50)
    have h12 : w.heap.size ≤ w1.heap.size := HB1.out.size
    have hA' : 0 < l.length → ∀ ad, A0 = some ad → ad.block < w.heap.size := fun h0 ad he => by subst he; exact C_lt HC.out h0
    have hsz : w2.heap.size < (w2.alloc (.cells #[.slice Av l.length cv, .int .i64 0, .int .i64 0] 50)).heap.size := by show _ < (w2.heap.push _).size; simp
    refine ⟨Cs.bel ⟨HCU.out, Kd.C_below HC.out HB2.out, fun h0 ad he => by have := hA' h0 ad he; omega⟩ hb, ?_, pw_own_below HO2.out hb, Go.Proofs.Ytnbglbehdjhmcaa.Pk.bel HB2.out hb, by simp, by simp, HGW.out.1, by have := HGW.out.2; omega, by have := HGL.out; omega, by omega, HGV.out, hA'⟩
    refine ⟨Av, cv, ?_, by simpa using hcv, HAV.out, ?_, HGV.out⟩
    · rw [List.drop_zero, ← hgd]; exact blk_new _ _ _
    · rw [List.drop_zero]; exact Kd.C_below (own_C HO2.out) hb)
  have HB3 : Hid (∀ W, Below w.heap.size w W → Kd.C (Kd.pair (Kd.int .i64) (Kd.pair (Kd.int .i64) (Kd.int .i64))) W B acts.length acts) := Lib.hid (fun W h => Kd.C_below HAc.out h)
  generalize w2.alloc (.cells #[.slice Av l.length cv, .int .i64 0, .int .i64 0] 50) = w3 at HA ⊢
  have hgdw := Lib.hid (show gw ≠ gd by have := HA.out.h1; have := HA.out.h2; omega)
  clear HCU HO2 HB2 HGL hg1 hgd HB1
  go_loopg [8] 30 (fun gk v8 wr => ∃ (i p : Nat) (r : Int), v8 = .int .i64 i ∧ i ≤ 30 ∧ i ≤ acts.length ∧ Hid (gk = 30 - i) ∧ Hid (Ag w wr g1 gd gw A0 cap l Av cv p r p r))
  case atStart => exact ⟨0, 0, 0, rfl, by omega, by omega, Lib.hid (by simp), HA⟩
  case round =>
    clear HA
    obtain ⟨i, p, r, rfl, hi1, hi2, HG, HA⟩ := hrel
    by_cases hlt : i < acts.length
    · by_cases hlt2 : i < 30
      · obtain ⟨ad, cs, had, hcl, hK, hcell⟩ := (HB3.out _ HA.out.bl).get_ (0, 0, 0) i (by omega) (by omega)
        simp only [Int.toNat_natCast] at hK hcell
        generalize acts.getD i (0, 0, 0) = y at hK
        obtain ⟨x0, x1, x2⟩ := y
        obtain ⟨_, _, rfl, rfl, _, _, rfl, rfl, rfl⟩ := hK
        have q0 := hcell 0 _ rfl
        have q1 := hcell 1 _ rfl
        have q2 := hcell 2 _ rfl
        clear hcell hcl
        cases had
        have q0 : wr.cell? (ad.add (i * 3)) = some (.int .i64 x0) := q0
        have q1 : wr.cell? ⟨(ad.add (i * 3)).block, (ad.add (i * 3)).off + 1, none⟩ = some (.int .i64 x1) := cell_fld (j := 0) q1
        have q2 : wr.cell? ⟨(ad.add (i * 3)).block, (ad.add (i * 3)).off + 2, none⟩ = some (.int .i64 x2) := cell_fld (j := 1) q2
        obtain ⟨k6, hk6, hk6b⟩ : ∃ q, (IntKind.u64.wrap x0).tmod 6 = q ∧ (q = 0 ∨ q = 1 ∨ q = 2 ∨ q = 3 ∨ q = 4 ∨ q = 5) := ⟨_, rfl, by have := tm_bd x0 6 (by omega); omega⟩
        go_upto_region 12 with (fail)
        have HBl := Lib.hid (blk_new wr #[.int .i64 x0, .int .i64 x1, .int .i64 x2] 52)
        have HA1 := Lib.hid (HA.out.below (below_new wr (.cells #[.int .i64 x0, .int .i64 x1, .int .i64 x2] 52)))
        have hgb : Hid (gd < wr.heap.size) := Lib.hid HA.out.h3
        clear HA q0 q1 q2
        obtain ⟨gb, hgbe⟩ : ∃ b : Nat, wr.heap.size = b := ⟨_, rfl⟩
        rw [hgbe] at hgb HBl
        simp only [hgbe]
        generalize wr.alloc (.cells #[.int .i64 x0, .int .i64 x1, .int .i64 x2] 52) = w5 at HBl HA1 ⊢
        clear hgbe
        have HA := HA1
        have hp := HA.out.hp
        have hn1 := Lib.hid (show gb ≠ g1 by have := HA.out.h2; have := hgb.out; omega)
        have hn2 := Lib.hid (show gb ≠ gd by have := hgb.out; omega)
        have k0 := (blk_cell HBl.out 0).trans (show _ = some (.int .i64 x0) from rfl)
        have k1 := (blk_cell HBl.out 1).trans (show _ = some (.int .i64 x1) from rfl)
        have k2 := (blk_cell HBl.out 2).trans (show _ = some (.int .i64 x2) from rfl)
        clear HA1
        rcases hk6b with rfl | rfl | rfl | rfl | rfl | rfl
        · as_aux_lemma =>
            obtain ⟨V, hV⟩ : ∃ V, (if r = 0 ∧ spanF x1 = 0 then 0 else joinF (nl l p r x1)) = V := ⟨_, rfl⟩
            obtain ⟨p', hp'⟩ : ∃ p', (if r = 0 ∧ spanF x1 = 0 then p else np l.length p r x1) = p' := ⟨_, rfl⟩
            obtain ⟨r', hr'⟩ : ∃ r', tr l.length p r x1 = r' := ⟨_, rfl⟩
            have HT1 := Lib.hid (fun (W : World) (h : Cs W g1 A0 cap l p r) => take_step g1 A0 cap l p r x1 W h hp HBy.out hlc hcap2 (by omega))
            have HT2 := Lib.hid (fun (W : World) (h : Rf W gd gw l p r) => rtake_step gd gw l p r x1 W h hp (by omega) hgdw.out HBy.out)
            simp only [hV, hp', hr'] at HT1 HT2
            have hple : p' ≤ l.length := hp' ▸ tp_le hp
            have HPL := Lib.hid hple
            clear hV hp' hr' hple
            go_wp2_with fail
            go_region_held3 (fun W => W.cell? ⟨gb, 1, none⟩ = some (.int .i64 x1)) (first | exact k1 | exact k1t | exact k1d) (first | (go_at_call 18; refine (HT1.out _ ?h1a).mono ?_; (first | exact HA.out.cs | exact cs_drewN HA.out.cs _ | exact cs_drew HA.out.cs); rintro e wt ⟨rfl, hct, hkt⟩; have hAt := (HA.out.below (by first | exact Below.refl _ _ | exact pw_below_drewN (Below.refl _ _) _ | exact (Below.refl _ _).drew)).prog hkt hct HPL.out; have hBt := kp_blk2 hkt HBl.out hn1.out; have k1t := (blk_cell hBt 1).trans (show _ = some (.int .i64 x1) from rfl)) | (go_at_call 33; refine (HT2.out _ ?h2a).mono ?_; (first | exact hAt.rf | exact rf_drewN hAt.rf _ | exact hAt.rf.bel (Below.refl _ _).drew); rintro e wd ⟨rfl, hrd, hkd⟩; have hAd := (hAt.below (by first | exact Below.refl _ _ | exact pw_below_drewN (Below.refl _ _) _ | exact (Below.refl _ _).drew)).ref hkd hrd HPL.out; have hBd := kp_blk2 hkd hBt hn2.out; have k1d := (blk_cell hBd 1).trans (show _ = some (.int .i64 x1) from rfl)))
            have HA := Lib.hid hAd
            clear hAd hAt hBt hBd k1t k1d hkt hkd hct hrd
            -- what is told
            obtain ⟨A2, c2, hd1, _⟩ := HA.out.rf
            have hl2 : (l.drop p').length = l.length - p' := by simp
            rw [hl2] at hd1
            have u0 := (blk_cell hd1 0).trans (show _ = some (.slice A2 (l.length - p') c2) from rfl)
            have u1 := (blk_cell hd1 1).trans (show _ = some (.int .i64 (p' : Int)) from rfl)
            have u2 := (blk_cell hd1 2).trans (show _ = some (.int .i64 r') from rfl)
            have hpp := HA.out.hp
            have es : ((l.length - p' : Nat) : Int) = (l.length : Int) - p' := by omega
            obtain ⟨q, hq⟩ : ∃ q, (if r' = 0 then (if 0 < (l.length : Int) - p' then 3 else 0) else r') = q := ⟨_, rfl⟩
            have HQ := Lib.hid hq
            clear hd1 hl2 hq
            go_wp2_with fail
            go_quiet ((first | (go_at_call 22; exact Calls.quiet_of_same (at_any g1 A0 l.length cap p' r' _ HA.out.cs.cu)) | (go_at_call 23; exact Calls.quiet_of (left_q g1 A0 cap l p' r' _ HA.out.cs.cu hpp (by omega))) | (go_at_call 24; exact Calls.quiet_of_same (err_any g1 A0 l.length cap p' r' _ HA.out.cs.cu)) | (go_at_call 25; exact Calls.quiet_of (close_q g1 A0 cap l p' r' q HQ.out _ HA.out.cs.cu hpp (by omega))) | (go_at_call 36; exact Calls.quiet_of (rclose_q gd gw l p' r' q HQ.out _ (rf_drewN HA.out.rf _) hpp (by omega)))))
            go_wp2_with fail
            go_roundg (30 - (i + 1))
            case measure => have := HG.out; omega
            case rel => exact ⟨i + 1, p', r', by go_num, by omega, by omega, Lib.hid rfl, Lib.hid (HA.out.below (pw_below_drewN (Below.refl _ _) _))⟩
        · as_aux_lemma =>
            obtain ⟨M, hM⟩ : ∃ M, ml l p r x1 x2 = M := ⟨_, rfl⟩
            obtain ⟨p', hp'⟩ : ∃ p', mp l.length p r x1 x2 = p' := ⟨_, rfl⟩
            obtain ⟨r', hr'⟩ : ∃ r', mr l.length p r x1 x2 = r' := ⟨_, rfl⟩
            have HT1 := Lib.hid (fun (W : World) (h : Cs W g1 A0 cap l p r) => many_step g1 A0 cap l p r x1 x2 W h hp HBy.out hlc hcap2 (by omega))
            have HT2 := Lib.hid (fun (W : World) (h : Rf W gd gw l p r) (hw : gw < W.heap.size) => rmany_step gd gw l p r x1 x2 W h hp (by omega) hgdw.out hw HBy.out)
            simp only [hM, hp', hr'] at HT1 HT2
            have HPL := Lib.hid (show p' ≤ l.length from hp' ▸ mp_le hp)
            have hML : M.length ≤ 300 := by have := ml_len (r := r) (k := x1) (m := x2) hp; rw [hM] at this; omega
            clear hM hp' hr'
            go_wp2_with fail
            go_region_held3 (fun W => W.cell? ⟨gb, 1, none⟩ = some (.int .i64 x1) ∧ W.cell? ⟨gb, 2, none⟩ = some (.int .i64 x2)) (first | exact ⟨k1, k2⟩ | exact ⟨k1t, k2t⟩ | exact ⟨k1d, k2d⟩) (first | (go_at_call 19; refine (HT1.out _ ?h1b).mono ?_; (first | exact HA.out.cs | exact cs_drewN HA.out.cs _ | exact cs_drew HA.out.cs); rintro e wt ⟨⟨vx, rfl, hox⟩, hct, hkt⟩; obtain ⟨Ax, cx, hvx, hcx⟩ := own_slice hox; subst hvx; have hAt := (HA.out.below (by first | exact Below.refl _ _ | exact pw_below_drewN (Below.refl _ _) _ | exact (Below.refl _ _).drew)).prog hkt hct HPL.out; have hBt := kp_blk2 hkt HBl.out hn1.out; have k1t := (blk_cell hBt 1).trans (show _ = some (.int .i64 x1) from rfl); have k2t := (blk_cell hBt 2).trans (show _ = some (.int .i64 x2) from rfl)) | (go_at_call 34; refine (HT2.out _ ?h2b ?h3b).mono ?_; (first | exact hAt.rf | exact rf_drewN hAt.rf _ | exact hAt.rf.bel (Below.refl _ _).drew); exact Nat.lt_trans (Nat.lt_trans hAt.h1 hAt.h2) hAt.h3; rintro e wd ⟨⟨vy, rfl, hoy⟩, hrd, hkd⟩; obtain ⟨Ay, cy, hvy, hcy⟩ := own_slice hoy; subst hvy; have hAd := (hAt.below (by first | exact Below.refl _ _ | exact pw_below_drewN (Below.refl _ _) _ | exact (Below.refl _ _).drew)).ref hkd hrd HPL.out; have hox2 := own_rf hkd hox (by first | exact hAt.rf | exact rf_drewN hAt.rf _ | exact hAt.rf.bel (Below.refl _ _).drew) (by decide); have hBd := kp_blk2 hkd hBt hn2.out; have k1d := (blk_cell hBd 1).trans (show _ = some (.int .i64 x1) from rfl); have k2d := (blk_cell hBd 2).trans (show _ = some (.int .i64 x2) from rfl)))
            have HA := Lib.hid hAd
            have HCX := Lib.hid (own_C hox2)
            have HCY := Lib.hid (own_C hoy)
            clear hAd hAt hBt hBd k1t k1d k2t k2d hkt hkd hct hrd hox hoy hox2
            go_wp2_with fail
            have HWB := Lib.hid (Below.refl wd.heap.size wd)
            go_loopg [13, 10] M.length (fun gk v13 v10 wq => ∃ j : Nat, v13 = .int .i64 j ∧ v10 = .bool true ∧ j ≤ M.length ∧ Hid (gk = M.length - j) ∧ Hid (Below wd.heap.size wd wq))
            case atStart => exact ⟨0, rfl, rfl, by omega, Lib.hid (by simp), by first | exact HWB | exact Lib.hid (pw_below_drewN (Below.refl wd.heap.size wd) _) | exact Lib.hid (Below.refl _ _).drew⟩
            case round =>
              clear HWB
              obtain ⟨j, rfl, rfl, hj, HG2, HWB⟩ := hrel
              by_cases hltj : j < M.length
              · obtain ⟨ad1, had1, hcell1⟩ := Kd.at_int (Kd.C_below HCX.out HWB.out) j (by omega) (by omega)
                obtain ⟨ad2, had2, hcell2⟩ := Kd.at_int (Kd.C_below HCY.out HWB.out) j (by omega) (by omega)
                simp only [Int.toNat_natCast] at hcell1 hcell2
                cases had1
                cases had2
                generalize rd M j = z at hcell1 hcell2
                go_wp2_with fail
                go_quiet (fail)
                go_wp2_with fail
                go_roundg (M.length - (j + 1))
                case measure => have := HG2.out; omega
                case rel => exact ⟨j + 1, by go_num, rfl, by omega, Lib.hid rfl, Lib.hid (pw_below_drewN HWB.out _)⟩
              · have HA := Lib.hid (HA.out.below HWB.out)
                clear HWB HCX HCY
                -- what is told
                obtain ⟨A2, c2, hd1, _⟩ := HA.out.rf
                have hl2 : (l.drop p').length = l.length - p' := by simp
                rw [hl2] at hd1
                have u0 := (blk_cell hd1 0).trans (show _ = some (.slice A2 (l.length - p') c2) from rfl)
                have u1 := (blk_cell hd1 1).trans (show _ = some (.int .i64 (p' : Int)) from rfl)
                have u2 := (blk_cell hd1 2).trans (show _ = some (.int .i64 r') from rfl)
                have hpp := HA.out.hp
                have es : ((l.length - p' : Nat) : Int) = (l.length : Int) - p' := by omega
                obtain ⟨q, hq⟩ : ∃ q, (if r' = 0 then (if 0 < (l.length : Int) - p' then 3 else 0) else r') = q := ⟨_, rfl⟩
                have HQ := Lib.hid hq
                clear hd1 hl2 hq
                go_wp2_with fail
                go_quiet ((first | (go_at_call 22; exact Calls.quiet_of_same (at_any g1 A0 l.length cap p' r' _ HA.out.cs.cu)) | (go_at_call 23; exact Calls.quiet_of (left_q g1 A0 cap l p' r' _ HA.out.cs.cu hpp (by omega))) | (go_at_call 24; exact Calls.quiet_of_same (err_any g1 A0 l.length cap p' r' _ HA.out.cs.cu)) | (go_at_call 25; exact Calls.quiet_of (close_q g1 A0 cap l p' r' q HQ.out _ HA.out.cs.cu hpp (by omega))) | (go_at_call 36; exact Calls.quiet_of (rclose_q gd gw l p' r' q HQ.out _ (rf_drewN HA.out.rf _) hpp (by omega)))))
                go_wp2_with fail
                go_roundg (30 - (i + 1))
                case measure => have := HG.out; omega
                case rel => exact ⟨i + 1, p', r', by go_num, by omega, by omega, Lib.hid rfl, Lib.hid (HA.out.below (pw_below_drewN (Below.refl _ _) _))⟩
        · as_aux_lemma =>
            obtain ⟨M, hM⟩ : ∃ M, nl l p r x2 = M := ⟨_, rfl⟩
            obtain ⟨p', hp'⟩ : ∃ p', np l.length p r x2 = p' := ⟨_, rfl⟩
            obtain ⟨r', hr'⟩ : ∃ r', nr l.length p r x2 = r' := ⟨_, rfl⟩
            have HT1 := Lib.hid (fun (W : World) (h : Cs W g1 A0 cap l p r) => bytes_step g1 A0 cap l p r x2 W h HA0.out hp hlc hcap2 (by omega))
            have HT2 := Lib.hid (fun (W : World) (h : Rf W gd gw l p r) => rbytes_step gd gw l p r x2 W h hp (by omega) hgdw.out)
            have hML : M.length ≤ 300 := by rw [← hM]; exact Nat.le_trans (nl_le hp) (by omega)
            have HPL := Lib.hid (show p' ≤ l.length from hp' ▸ np_le hp)
            simp only [hM, hp', hr'] at HT1 HT2
            have HGX := Lib.hid (show gd < w5.heap.size from Nat.lt_trans hgb.out (blk_lt HBl.out))
            clear hM hp' hr'
            go_wp2_with fail
            go_region_held3 (fun W => W.cell? ⟨gb, 2, none⟩ = some (.int .i64 x2)) (first | exact k2 | exact k2t | exact k2d) (first | (go_at_call 20; refine (HT1.out _ ?h1c).mono ?_; (first | exact HA.out.cs | exact cs_drewN HA.out.cs _ | exact cs_drew HA.out.cs); rintro e wt ⟨⟨vx, rfl, hox⟩, hct, hkt⟩; obtain ⟨Ax, cx, hvx, hcx⟩ := own_slice hox; subst hvx; have hAt := (HA.out.below (by first | exact Below.refl _ _ | exact pw_below_drewN (Below.refl _ _) _ | exact (Below.refl _ _).drew)).prog hkt hct HPL.out; have hBt := kp_blk2 hkt HBl.out hn1.out; have k2t := (blk_cell hBt 2).trans (show _ = some (.int .i64 x2) from rfl)) | (go_at_call 35; refine (HT2.out _ ?h2c).mono ?_; (first | exact hAt.rf | exact rf_drewN hAt.rf _ | exact hAt.rf.bel (Below.refl _ _).drew); rintro e wd ⟨⟨Ay, cy, rfl, hcy, hrow, _⟩, hrd, hkd⟩; have hAd := (hAt.below (by first | exact Below.refl _ _ | exact pw_below_drewN (Below.refl _ _) _ | exact (Below.refl _ _).drew)).ref hkd hrd HPL.out; have hox2 := own_rf hkd hox (by first | exact hAt.rf | exact rf_drewN hAt.rf _ | exact hAt.rf.bel (Below.refl _ _).drew) (by decide); have hBd := kp_blk2 hkd hBt hn2.out; have k2d := (blk_cell hBd 2).trans (show _ = some (.int .i64 x2) from rfl)))
            have HA := Lib.hid hAd
            have HOX : Hid (wd.ownsRow w5.heap.size 5 1 (.slice Ax M.length cx) M.length (encs (Value.int .u8) M)) := Lib.hid hox2
            have HCY := Lib.hid hrow
            clear hAd hAt hBt hBd k2t k2d hkt hkd hct hrd hox hox2 hrow
            go_wp2_with fail
            refine (same_any Ax Ay cx cy M M true (by simp) _ (by first | exact own_C HOX.out | exact Kd.C_below (own_C HOX.out) (pw_below_drewN (Below.refl _ _) _)) hcx (by first | exact HCY.out | exact Kd.C_below HCY.out (pw_below_drewN (Below.refl _ _) _)) hcy (by omega)).mono ?_
            rintro e w9 ⟨rfl, m9, rfl⟩
            have HA9 := Lib.hid (HA.out.below (pw_below_drewN (Below.refl wd.heap.size wd) m9))
            have HO9 := Lib.hid (pw_own_drewN HOX.out m9)
            clear HOX HCY HA
            generalize World.drewN wd m9 = w10 at HA9 HO9 ⊢
            go_wp2_with fail
            go_loopg [16] M.length (fun gk v16 wq => ∃ (j : Nat) (L : List Int), v16 = .int .i64 j ∧ j ≤ M.length ∧ Hid (gk = M.length - j) ∧ Hid (wq.ownsRow w5.heap.size 5 1 (.slice Ax M.length cx) M.length (encs (Value.int .u8) L)) ∧ Hid (Ag w wq g1 gd gw A0 cap l Av cv p' r' p' r'))
            case atStart => exact ⟨0, M, rfl, by omega, Lib.hid (by simp), HO9, HA9⟩
            case round =>
              clear HA9 HO9
              obtain ⟨j, L, rfl, hj, HG2, HO9, HA9⟩ := hrel
              by_cases hltj : j < M.length
              · obtain ⟨bx, hbx, hbx2⟩ : ∃ bx, Ax = some ⟨bx, 0, none⟩ ∧ w5.heap.size ≤ bx := by
                  rcases HO9.out.2 with ⟨h1, h2⟩ | ⟨g, cap', cur, h1, h2, _⟩
                  · omega
                  · injection h1 with h1; exact ⟨g, h1, h2⟩
                subst hbx
                have HBX := Lib.hid (show gd < bx by have := HGX.out; omega)
                obtain ⟨kc, kf⟩ := own_at_of (enc := Value.int .u8) (d := (0 : Int)) HO9.out (j : Int) (by omega) (by omega)
                simp only [Int.toNat_natCast] at kc kf
                generalize rdOf 0 L (j : Int) = z9 at kc
                go_wp2_with fail
                go_roundg (M.length - (j + 1))
                case measure => have := HG2.out; omega
                case rel => exact ⟨j + 1, L.set j _, by go_num, by omega, Lib.hid rfl, Lib.hid ((own_store_of (enc := Value.int .u8) HO9.out (j : Int) _).1), Lib.hid (HA9.out.far ((Kp.refl _ (fun k => k = bx)).setCell (p := ⟨bx, j, none⟩) (.inl rfl) _) HBX.out)⟩
              · have HA := HA9
                clear HA9 HO9
                -- what is told
                obtain ⟨A2, c2, hd1, _⟩ := HA.out.rf
                have hl2 : (l.drop p').length = l.length - p' := by simp
                rw [hl2] at hd1
                have u0 := (blk_cell hd1 0).trans (show _ = some (.slice A2 (l.length - p') c2) from rfl)
                have u1 := (blk_cell hd1 1).trans (show _ = some (.int .i64 (p' : Int)) from rfl)
                have u2 := (blk_cell hd1 2).trans (show _ = some (.int .i64 r') from rfl)
                have hpp := HA.out.hp
                have es : ((l.length - p' : Nat) : Int) = (l.length : Int) - p' := by omega
                obtain ⟨q, hq⟩ : ∃ q, (if r' = 0 then (if 0 < (l.length : Int) - p' then 3 else 0) else r') = q := ⟨_, rfl⟩
                have HQ := Lib.hid hq
                clear hd1 hl2 hq
                go_wp2_with fail
                go_quiet ((first | (go_at_call 22; exact Calls.quiet_of_same (at_any g1 A0 l.length cap p' r' _ HA.out.cs.cu)) | (go_at_call 23; exact Calls.quiet_of (left_q g1 A0 cap l p' r' _ HA.out.cs.cu hpp (by omega))) | (go_at_call 24; exact Calls.quiet_of_same (err_any g1 A0 l.length cap p' r' _ HA.out.cs.cu)) | (go_at_call 25; exact Calls.quiet_of (close_q g1 A0 cap l p' r' q HQ.out _ HA.out.cs.cu hpp (by omega))) | (go_at_call 36; exact Calls.quiet_of (rclose_q gd gw l p' r' q HQ.out _ (rf_drewN HA.out.rf _) hpp (by omega)))))
                go_wp2_with fail
                go_roundg (30 - (i + 1))
                case measure => have := HG.out; omega
                case rel => exact ⟨i + 1, p', r', by go_num, by omega, by omega, Lib.hid rfl, Lib.hid (HA.out.below (pw_below_drewN (Below.refl _ _) _))⟩
        · as_aux_lemma =>
            obtain ⟨M, hM⟩ : ∃ M, nl l p r x2 = M := ⟨_, rfl⟩
            obtain ⟨p', hp'⟩ : ∃ p', np l.length p r x2 = p' := ⟨_, rfl⟩
            obtain ⟨r', hr'⟩ : ∃ r', nr l.length p r x2 = r' := ⟨_, rfl⟩
            have HT1 := Lib.hid (within_step g1 A0 cap l p r x2 w5 HA.out.cs HA0.out hp hlc hcap2 (by omega))
            have HT2 := Lib.hid (fun (W : World) (h : Rf W gd gw l p r) => rbytes_step gd gw l p r x2 W h hp (by omega) hgdw.out)
            have hML : M.length ≤ 300 := by rw [← hM]; exact Nat.le_trans (nl_le hp) (by omega)
            have HPL := Lib.hid (show p' ≤ l.length from hp' ▸ np_le hp)
            have HMR := Lib.hid (show r' ≠ 0 → M = [] from fun h => by rw [← hM]; exact nl_bad (by rw [hr']; exact h))
            simp only [hM, hp', hr'] at HT1 HT2
            have HGX := Lib.hid (show gd < w5.heap.size from Nat.lt_trans hgb.out (blk_lt HBl.out))
            clear hM hp' hr'
            go_wp2_with fail
            refine HT1.out.mono ?_
            rintro e wt ⟨⟨gx, Ax, cx, rfl, hgx, hcx, hnx, hnx2, hax, hbx⟩, hct, hkt⟩
            have HAt := Lib.hid (HA.out.prog hkt hct HPL.out)
            have HBt := Lib.hid (kp_blk2 hkt HBl.out hn1.out)
            have HX := Lib.hid hcx
            have HXA := Lib.hid hax
            have hgxd := Lib.hid (show gd < gx by have := HGX.out; omega)
            have HXB := Lib.hid (show ∀ ad, Ax = some ad → gd < ad.block from fun ad he => by have := hbx ad he; have := HGX.out; omega)
            clear HA HBl hcx hct hkt hax hbx k0 k1 k2 HT1 hgx
            have k2 := (blk_cell HBt.out 2).trans (show _ = some (.int .i64 x2) from rfl)
            go_wp2_with fail
            refine (HT2.out _ HAt.out.rf).mono ?_
            rintro e wd ⟨⟨Ay, cy, rfl, hcy, hrow, hyb⟩, hrd, hkd⟩
            have HAd := Lib.hid (HAt.out.ref hkd hrd HPL.out)
            have HXd := Lib.hid (HX.out.other hkd (by have := hgxd.out; omega) (fun _ ad he => by have := HXB.out ad he; omega))
            have HY := Lib.hid hrow
            have HYB := Lib.hid hyb
            clear HAt HX hrd hkd hrow hyb HT2 HBt k2
            obtain ⟨V, hV⟩ : ∃ V, nl M 0 r' M.length = V := ⟨_, rfl⟩
            have hVM : V = M := by
              rw [← hV]
              by_cases h0 : r' = 0
              · rw [h0, nl_ok (nr_ok (by omega) (by omega)), List.drop_zero, Int.toNat_natCast, List.take_length]
              · rw [nl_bad (by rw [nr_was h0]; exact h0), HMR.out h0]
            obtain ⟨s0, hs0⟩ : ∃ s0, np M.length 0 r' M.length = s0 := ⟨_, rfl⟩
            have hs0l : s0 ≤ M.length := hs0 ▸ np_le (by omega)
            have hnr : nr M.length 0 r' M.length = r' := by
              by_cases h0 : r' = 0
              · rw [h0]; exact nr_ok (by omega) (by omega)
              · exact nr_was h0
            have hs0r : r' = 0 → s0 = M.length := fun h0 => by rw [← hs0, np_ok (by rw [hnr]; exact h0)]; simp
            have HT3 := Lib.hid (fun (W : World) (h : Cs W gx Ax cx M 0 r') => bytes_step gx Ax cx M 0 r' M.length W h HXA.out (by omega) hnx hnx2 (by omega))
            simp only [hV, hs0, hnr, hVM] at HT3
            clear hV hVM hs0 hnr
            go_wp2_with fail
            refine (HT3.out _ HXd.out).mono ?_
            rintro e w8 ⟨⟨vz, rfl, hoz⟩, hcz, hkz⟩
            obtain ⟨Az, cz, hvz, hcz2⟩ := own_slice hoz
            subst hvz
            have HA8 := Lib.hid (HAd.out.far hkz hgxd.out)
            have HZ := Lib.hid (own_C hoz)
            have HY8 := Lib.hid (C_kpO HY.out hkz (fun _ ad he => by have := HYB.out ad he; have := hgxd.out; have := HAd.out.h1; have := HAd.out.h2; omega))
            have HX8 := Lib.hid hcz
            clear HAd HXd HY HT3 hoz hcz hkz
            obtain ⟨Ad, cd, hdd, _⟩ := HA8.out.rf
            have u2 := (blk_cell hdd 2).trans (show _ = some (.int .i64 r') from rfl)
            clear hdd
            by_cases hr0 : r' = 0
            · have hs1 := hs0r hr0
              subst hr0
              have HCQ := Lib.hid (fun (W : World) (h : Cu W gx Ax M.length cx s0 0) => close_q gx Ax cx M s0 0 0 (by rw [if_pos rfl, hs1]; simp) W h hs0l (by omega))
              clear hs0r hs1
              go_wp2_with fail
              go_quiet ((first | (go_at_call 27; exact Calls.quiet_of (same_any Az Ay cz cy M M true (by simp) _ (C_dr HZ.out _) hcz2 (C_dr HY8.out _) hcy (by omega))) | (go_at_call 25; exact Calls.quiet_of (HCQ.out _ HX8.out.cu))))
              have HA := Lib.hid (HA8.out.below (pw_below_drewN (Below.refl w8.heap.size w8) nq))
              clear HA8 HZ HY8 HX8 HCQ u2
              generalize w8.drewN nq = w9 at HA ⊢
              obtain ⟨r', hr'⟩ : ∃ r', (0 : Int) = r' := ⟨_, rfl⟩
              rw [hr'] at HA
              -- what is told
              obtain ⟨A2, c2, hd1, _⟩ := HA.out.rf
              have hl2 : (l.drop p').length = l.length - p' := by simp
              rw [hl2] at hd1
              have u0 := (blk_cell hd1 0).trans (show _ = some (.slice A2 (l.length - p') c2) from rfl)
              have u1 := (blk_cell hd1 1).trans (show _ = some (.int .i64 (p' : Int)) from rfl)
              have u2 := (blk_cell hd1 2).trans (show _ = some (.int .i64 r') from rfl)
              have hpp := HA.out.hp
              have es : ((l.length - p' : Nat) : Int) = (l.length : Int) - p' := by omega
              obtain ⟨q, hq⟩ : ∃ q, (if r' = 0 then (if 0 < (l.length : Int) - p' then 3 else 0) else r') = q := ⟨_, rfl⟩
              have HQ := Lib.hid hq
              clear hd1 hl2 hq
              go_wp2_with fail
              go_quiet ((first | (go_at_call 22; exact Calls.quiet_of_same (at_any g1 A0 l.length cap p' r' _ HA.out.cs.cu)) | (go_at_call 23; exact Calls.quiet_of (left_q g1 A0 cap l p' r' _ HA.out.cs.cu hpp (by omega))) | (go_at_call 24; exact Calls.quiet_of_same (err_any g1 A0 l.length cap p' r' _ HA.out.cs.cu)) | (go_at_call 25; exact Calls.quiet_of (close_q g1 A0 cap l p' r' q HQ.out _ HA.out.cs.cu hpp (by omega))) | (go_at_call 36; exact Calls.quiet_of (rclose_q gd gw l p' r' q HQ.out _ (rf_drewN HA.out.rf _) hpp (by omega)))))
              go_wp2_with fail
              go_roundg (30 - (i + 1))
              case measure => have := HG.out; omega
              case rel => exact ⟨i + 1, p', r', by go_num, by omega, by omega, Lib.hid rfl, Lib.hid (HA.out.below (pw_below_drewN (Below.refl _ _) _))⟩
            · have hrb : (r' == 0) = false := by simpa using hr0
              have hrd : (r' != 0) = true := by simpa using hr0
              clear hs0r
              go_wp2_with fail
              go_quiet ((first | (go_at_call 27; exact Calls.quiet_of (same_any Az Ay cz cy M M true (by simp) _ (C_dr HZ.out _) hcz2 (C_dr HY8.out _) hcy (by omega))) | (go_at_call 24; exact Calls.quiet_of_same (err_any gx Ax M.length cx s0 r' _ HX8.out.cu))))
              have HA := Lib.hid (HA8.out.below (pw_below_drewN (Below.refl w8.heap.size w8) nq))
              clear HA8 HZ HY8 HX8 u2
              generalize w8.drewN nq = w9 at HA ⊢
              -- what is told
              obtain ⟨A2, c2, hd1, _⟩ := HA.out.rf
              have hl2 : (l.drop p').length = l.length - p' := by simp
              rw [hl2] at hd1
              have u0 := (blk_cell hd1 0).trans (show _ = some (.slice A2 (l.length - p') c2) from rfl)
              have u1 := (blk_cell hd1 1).trans (show _ = some (.int .i64 (p' : Int)) from rfl)
              have u2 := (blk_cell hd1 2).trans (show _ = some (.int .i64 r') from rfl)
              have hpp := HA.out.hp
              have es : ((l.length - p' : Nat) : Int) = (l.length : Int) - p' := by omega
              obtain ⟨q, hq⟩ : ∃ q, (if r' = 0 then (if 0 < (l.length : Int) - p' then 3 else 0) else r') = q := ⟨_, rfl⟩
              have HQ := Lib.hid hq
              clear hd1 hl2 hq
              go_wp2_with fail
              go_quiet ((first | (go_at_call 22; exact Calls.quiet_of_same (at_any g1 A0 l.length cap p' r' _ HA.out.cs.cu)) | (go_at_call 23; exact Calls.quiet_of (left_q g1 A0 cap l p' r' _ HA.out.cs.cu hpp (by omega))) | (go_at_call 24; exact Calls.quiet_of_same (err_any g1 A0 l.length cap p' r' _ HA.out.cs.cu)) | (go_at_call 25; exact Calls.quiet_of (close_q g1 A0 cap l p' r' q HQ.out _ HA.out.cs.cu hpp (by omega))) | (go_at_call 36; exact Calls.quiet_of (rclose_q gd gw l p' r' q HQ.out _ (rf_drewN HA.out.rf _) hpp (by omega)))))
              go_wp2_with fail
              go_roundg (30 - (i + 1))
              case measure => have := HG.out; omega
              case rel => exact ⟨i + 1, p', r', by go_num, by omega, by omega, Lib.hid rfl, Lib.hid (HA.out.below (pw_below_drewN (Below.refl _ _) _))⟩
        · as_aux_lemma =>
            obtain ⟨M, hM⟩ : ∃ M, pk l p r x2 = M := ⟨_, rfl⟩
            have HP := Lib.hid (fun (W : World) (h : Cs W g1 A0 cap l p r) => peek_step g1 A0 cap l p r x2 W h HA0.out hp hlc hcap2 (by omega))
            simp only [hM] at HP
            obtain ⟨A2, c2, hdd, hlc2, _, hrow, _⟩ := HA.out.rf
            have hl2 : (l.drop p).length = l.length - p := by simp
            rw [hl2] at hdd hlc2 hrow
            have u0 := (blk_cell hdd 0).trans (show _ = some (.slice A2 (l.length - p) c2) from rfl)
            have u2 := (blk_cell hdd 2).trans (show _ = some (.int .i64 r) from rfl)
            obtain ⟨mn, hmn⟩ : ∃ mn : Int, (if ((l.length - p : Nat) : Int) < x2 then ((l.length - p : Nat) : Int) else x2) = mn := ⟨_, rfl⟩
            have HMN := Lib.hid hmn
            have HDD := Lib.hid hdd
            have HRW := Lib.hid hrow
            clear hdd hrow hl2
            go_upto_region 40 with (fail)
            go_quiet (fail)
            have HA := Lib.hid (HA.out.below (pw_below_drewN (Below.refl w5.heap.size w5) nq))
            have HBl : Hid ((w5.drewN nq).heap[gb]? = some (.cells #[.int .i64 x0, .int .i64 x1, .int .i64 x2] 52 (0, 0))) := HBl
            have HDD : Hid (Dd (w5.drewN nq) gd A2 (l.length - p) c2 p r) := HDD
            have HRW := Lib.hid (C_dr HRW.out nq)
            clear k0 k1 k2 u0 u2 hmn
            generalize w5.drewN nq = w6 at HA HBl HDD HRW ⊢
            have k2 := (blk_cell HBl.out 2).trans (show _ = some (.int .i64 x2) from rfl)
            have u0 := (blk_cell HDD.out 0).trans (show _ = some (.slice A2 (l.length - p) c2) from rfl)
            have u2 := (blk_cell HDD.out 2).trans (show _ = some (.int .i64 r) from rfl)
            by_cases hr : r = 0
            · subst hr
              by_cases hm1 : mn < 1
              · have hM0 : M = [] := by
                  rw [← hM]
                  unfold pk
                  by_cases hx1 : x2 < 1
                  · rw [if_pos (.inr hx1)]
                  · have hlp : l.length - p = 0 := by
                      have h9 := HMN.out
                      split at h9 <;> omega
                    rw [if_neg (fun h => h.elim (fun h => h rfl) hx1), List.drop_of_length_le (by omega)]; simp
                subst hM0
                have hmd : decide (mn < 1) = true := by simpa using hm1
                have HROW := Lib.hid (show Kd.C (Kd.int .u8) w6 A2 ([] : List Int).length [] from by simpa using C_take HRW.out (Nat.zero_le _))
                clear hM HMN
                go_upto_region 43 with (fail)
                go_region_held3 (fun W => W.cell? ⟨gb, 2, none⟩ = some (.int .i64 x2) ∧ W.cell? ⟨gd, 0, none⟩ = some (.slice A2 (l.length - p) c2)) (first | exact ⟨k2, u0⟩ | exact ⟨k2t, u0t⟩) (first | (go_at_call 21; refine (HP.out _ ?h1e0).mono ?_; (first | exact HA.out.cs | exact cs_drewN HA.out.cs _ | exact cs_drew HA.out.cs); rintro e wt ⟨⟨vx, rfl, hox⟩, hbt⟩; obtain ⟨Ax, cx, hvx, hcx⟩ := own_slice hox; subst hvx; have hb2 : Below w6.heap.size w6 wt := (by first | exact hbt | exact Go.Proofs.Ytnbglbehdjhmcaa.Pk.bel (pw_below_drewN (Below.refl w6.heap.size w6) _) hbt | exact Go.Proofs.Ytnbglbehdjhmcaa.Pk.bel (Below.refl w6.heap.size w6).drew hbt); have k2t := (blk_cell (blk_bel HBl.out hb2) 2).trans (show _ = some (.int .i64 x2) from rfl); have u0t := (blk_cell (blk_bel HDD.out hb2) 0).trans (show _ = some (.slice A2 (l.length - p) c2) from rfl); have hcy := Kd.C_below HROW.out hb2) | (go_at_call 27; refine (same_any Ax A2 cx c2 [] [] true (by simp) _ (by first | exact own_C hox | exact C_dr (own_C hox) _) hcx (by first | exact hcy | exact C_dr hcy _) (by simp) (by simp)).mono ?_; rintro e wd ⟨rfl, m9, rfl⟩))
                have HA := Lib.hid (HA.out.below (Go.Proofs.Ytnbglbehdjhmcaa.Pk.bel hb2 (pw_below_drewN (Below.refl wt.heap.size wt) m9)))
                clear k2t u0t hcy hb2 hbt hox
                generalize World.drewN wt m9 = w7 at HA ⊢
                obtain ⟨p', hp'⟩ : ∃ p', p = p' := ⟨_, rfl⟩
                obtain ⟨r', hr'⟩ : ∃ r', (0 : Int) = r' := ⟨_, rfl⟩
                rw [hp', hr'] at HA
                -- what is told
                obtain ⟨A2, c2, hd1, _⟩ := HA.out.rf
                have hl2 : (l.drop p').length = l.length - p' := by simp
                rw [hl2] at hd1
                have u0 := (blk_cell hd1 0).trans (show _ = some (.slice A2 (l.length - p') c2) from rfl)
                have u1 := (blk_cell hd1 1).trans (show _ = some (.int .i64 (p' : Int)) from rfl)
                have u2 := (blk_cell hd1 2).trans (show _ = some (.int .i64 r') from rfl)
                have hpp := HA.out.hp
                have es : ((l.length - p' : Nat) : Int) = (l.length : Int) - p' := by omega
                obtain ⟨q, hq⟩ : ∃ q, (if r' = 0 then (if 0 < (l.length : Int) - p' then 3 else 0) else r') = q := ⟨_, rfl⟩
                have HQ := Lib.hid hq
                clear hd1 hl2 hq
                go_wp2_with fail
                go_quiet ((first | (go_at_call 22; exact Calls.quiet_of_same (at_any g1 A0 l.length cap p' r' _ HA.out.cs.cu)) | (go_at_call 23; exact Calls.quiet_of (left_q g1 A0 cap l p' r' _ HA.out.cs.cu hpp (by omega))) | (go_at_call 24; exact Calls.quiet_of_same (err_any g1 A0 l.length cap p' r' _ HA.out.cs.cu)) | (go_at_call 25; exact Calls.quiet_of (close_q g1 A0 cap l p' r' q HQ.out _ HA.out.cs.cu hpp (by omega))) | (go_at_call 36; exact Calls.quiet_of (rclose_q gd gw l p' r' q HQ.out _ (rf_drewN HA.out.rf _) hpp (by omega)))))
                go_wp2_with fail
                go_roundg (30 - (i + 1))
                case measure => have := HG.out; omega
                case rel => exact ⟨i + 1, p', r', by go_num, by omega, by omega, Lib.hid rfl, Lib.hid (HA.out.below (pw_below_drewN (Below.refl _ _) _))⟩
              · have hM1 : mn = (M.length : Int) ∧ M = (l.drop p).take M.length ∧ M.length ≤ l.length - p := by
                  have h9 := HMN.out
                  have hx1 : ¬ x2 < 1 := by split at h9 <;> omega
                  have e1 : M = (l.drop p).take x2.toNat := by rw [← hM]; unfold pk; rw [if_neg (fun h => h.elim (fun h => h rfl) hx1)]
                  have e2 : M.length = min x2.toNat (l.length - p) := by rw [e1]; simp
                  refine ⟨by split at h9 <;> omega, ?_, by omega⟩
                  rw [e2]
                  rw [e1]
                  by_cases hlt3 : x2.toNat ≤ l.length - p
                  · rw [Nat.min_eq_left hlt3]
                  · rw [Nat.min_eq_right (by omega), List.take_of_length_le (by simp; omega), List.take_of_length_le (by simp)]
                obtain ⟨hm2, hm3, hm4⟩ := hM1
                have hmd : decide (mn < 1) = false := by simp; omega
                have HROW := Lib.hid (show Kd.C (Kd.int .u8) w6 A2 M.length M from by have h := C_take HRW.out hm4; rw [← hm3] at h; exact h)
                have hmc : M.length ≤ c2 := by omega
                subst hm2
                clear hM HMN hm3
                go_upto_region 43 with (fail)
                go_region_held3 (fun W => W.cell? ⟨gb, 2, none⟩ = some (.int .i64 x2) ∧ W.cell? ⟨gd, 0, none⟩ = some (.slice A2 (l.length - p) c2)) (first | exact ⟨k2, u0⟩ | exact ⟨k2t, u0t⟩) (first | (go_at_call 21; refine (HP.out _ ?h1e1).mono ?_; (first | exact HA.out.cs | exact cs_drewN HA.out.cs _ | exact cs_drew HA.out.cs); rintro e wt ⟨⟨vx, rfl, hox⟩, hbt⟩; obtain ⟨Ax, cx, hvx, hcx⟩ := own_slice hox; subst hvx; have hb2 : Below w6.heap.size w6 wt := (by first | exact hbt | exact Go.Proofs.Ytnbglbehdjhmcaa.Pk.bel (pw_below_drewN (Below.refl w6.heap.size w6) _) hbt | exact Go.Proofs.Ytnbglbehdjhmcaa.Pk.bel (Below.refl w6.heap.size w6).drew hbt); have k2t := (blk_cell (blk_bel HBl.out hb2) 2).trans (show _ = some (.int .i64 x2) from rfl); have u0t := (blk_cell (blk_bel HDD.out hb2) 0).trans (show _ = some (.slice A2 (l.length - p) c2) from rfl); have hcy := Kd.C_below HROW.out hb2) | (go_at_call 27; refine (same_any Ax A2 cx c2 M M true (by simp) _ (by first | exact own_C hox | exact C_dr (own_C hox) _) hcx (by first | exact hcy | exact C_dr hcy _) (by omega) (by omega)).mono ?_; rintro e wd ⟨rfl, m9, rfl⟩))
                have HA := Lib.hid (HA.out.below (Go.Proofs.Ytnbglbehdjhmcaa.Pk.bel hb2 (pw_below_drewN (Below.refl wt.heap.size wt) m9)))
                clear k2t u0t hcy hb2 hbt hox
                generalize World.drewN wt m9 = w7 at HA ⊢
                obtain ⟨p', hp'⟩ : ∃ p', p = p' := ⟨_, rfl⟩
                obtain ⟨r', hr'⟩ : ∃ r', (0 : Int) = r' := ⟨_, rfl⟩
                rw [hp', hr'] at HA
                -- what is told
                obtain ⟨A2, c2, hd1, _⟩ := HA.out.rf
                have hl2 : (l.drop p').length = l.length - p' := by simp
                rw [hl2] at hd1
                have u0 := (blk_cell hd1 0).trans (show _ = some (.slice A2 (l.length - p') c2) from rfl)
                have u1 := (blk_cell hd1 1).trans (show _ = some (.int .i64 (p' : Int)) from rfl)
                have u2 := (blk_cell hd1 2).trans (show _ = some (.int .i64 r') from rfl)
                have hpp := HA.out.hp
                have es : ((l.length - p' : Nat) : Int) = (l.length : Int) - p' := by omega
                obtain ⟨q, hq⟩ : ∃ q, (if r' = 0 then (if 0 < (l.length : Int) - p' then 3 else 0) else r') = q := ⟨_, rfl⟩
                have HQ := Lib.hid hq
                clear hd1 hl2 hq
                go_wp2_with fail
                go_quiet ((first | (go_at_call 22; exact Calls.quiet_of_same (at_any g1 A0 l.length cap p' r' _ HA.out.cs.cu)) | (go_at_call 23; exact Calls.quiet_of (left_q g1 A0 cap l p' r' _ HA.out.cs.cu hpp (by omega))) | (go_at_call 24; exact Calls.quiet_of_same (err_any g1 A0 l.length cap p' r' _ HA.out.cs.cu)) | (go_at_call 25; exact Calls.quiet_of (close_q g1 A0 cap l p' r' q HQ.out _ HA.out.cs.cu hpp (by omega))) | (go_at_call 36; exact Calls.quiet_of (rclose_q gd gw l p' r' q HQ.out _ (rf_drewN HA.out.rf _) hpp (by omega)))))
                go_wp2_with fail
                go_roundg (30 - (i + 1))
                case measure => have := HG.out; omega
                case rel => exact ⟨i + 1, p', r', by go_num, by omega, by omega, Lib.hid rfl, Lib.hid (HA.out.below (pw_below_drewN (Below.refl _ _) _))⟩
            · have hM0 : M = [] := by rw [← hM]; unfold pk; rw [if_pos (.inl hr)]
              subst hM0
              have hrb : (r != 0) = true := by simpa using hr
              have hrb2 : (r == 0) = false := by simpa using hr
              have HROW := Lib.hid (show Kd.C (Kd.int .u8) w6 A2 ([] : List Int).length [] from by simpa using C_take HRW.out (Nat.zero_le _))
              clear hM HMN
              go_upto_region 43 with (fail)
              go_region_held3 (fun W => W.cell? ⟨gb, 2, none⟩ = some (.int .i64 x2) ∧ W.cell? ⟨gd, 0, none⟩ = some (.slice A2 (l.length - p) c2)) (first | exact ⟨k2, u0⟩ | exact ⟨k2t, u0t⟩) (first | (go_at_call 21; refine (HP.out _ ?h1e2).mono ?_; (first | exact HA.out.cs | exact cs_drewN HA.out.cs _ | exact cs_drew HA.out.cs); rintro e wt ⟨⟨vx, rfl, hox⟩, hbt⟩; obtain ⟨Ax, cx, hvx, hcx⟩ := own_slice hox; subst hvx; have hb2 : Below w6.heap.size w6 wt := (by first | exact hbt | exact Go.Proofs.Ytnbglbehdjhmcaa.Pk.bel (pw_below_drewN (Below.refl w6.heap.size w6) _) hbt | exact Go.Proofs.Ytnbglbehdjhmcaa.Pk.bel (Below.refl w6.heap.size w6).drew hbt); have k2t := (blk_cell (blk_bel HBl.out hb2) 2).trans (show _ = some (.int .i64 x2) from rfl); have u0t := (blk_cell (blk_bel HDD.out hb2) 0).trans (show _ = some (.slice A2 (l.length - p) c2) from rfl); have hcy := Kd.C_below HROW.out hb2) | (go_at_call 27; refine (same_any Ax A2 cx c2 [] [] true (by simp) _ (by first | exact own_C hox | exact C_dr (own_C hox) _) hcx (by first | exact hcy | exact C_dr hcy _) (by simp) (by simp)).mono ?_; rintro e wd ⟨rfl, m9, rfl⟩))
              have HA := Lib.hid (HA.out.below (Go.Proofs.Ytnbglbehdjhmcaa.Pk.bel hb2 (pw_below_drewN (Below.refl wt.heap.size wt) m9)))
              clear k2t u0t hcy hb2 hbt hox
              generalize World.drewN wt m9 = w7 at HA ⊢
              obtain ⟨p', hp'⟩ : ∃ p', p = p' := ⟨_, rfl⟩
              obtain ⟨r', hr'⟩ : ∃ r', r = r' := ⟨_, rfl⟩
              rw [hp', hr'] at HA
              -- what is told
              obtain ⟨A2, c2, hd1, _⟩ := HA.out.rf
              have hl2 : (l.drop p').length = l.length - p' := by simp
              rw [hl2] at hd1
              have u0 := (blk_cell hd1 0).trans (show _ = some (.slice A2 (l.length - p') c2) from rfl)
              have u1 := (blk_cell hd1 1).trans (show _ = some (.int .i64 (p' : Int)) from rfl)
              have u2 := (blk_cell hd1 2).trans (show _ = some (.int .i64 r') from rfl)
              have hpp := HA.out.hp
              have es : ((l.length - p' : Nat) : Int) = (l.length : Int) - p' := by omega
              obtain ⟨q, hq⟩ : ∃ q, (if r' = 0 then (if 0 < (l.length : Int) - p' then 3 else 0) else r') = q := ⟨_, rfl⟩
              have HQ := Lib.hid hq
              clear hd1 hl2 hq
              go_wp2_with fail
              go_quiet ((first | (go_at_call 22; exact Calls.quiet_of_same (at_any g1 A0 l.length cap p' r' _ HA.out.cs.cu)) | (go_at_call 23; exact Calls.quiet_of (left_q g1 A0 cap l p' r' _ HA.out.cs.cu hpp (by omega))) | (go_at_call 24; exact Calls.quiet_of_same (err_any g1 A0 l.length cap p' r' _ HA.out.cs.cu)) | (go_at_call 25; exact Calls.quiet_of (close_q g1 A0 cap l p' r' q HQ.out _ HA.out.cs.cu hpp (by omega))) | (go_at_call 36; exact Calls.quiet_of (rclose_q gd gw l p' r' q HQ.out _ (rf_drewN HA.out.rf _) hpp (by omega)))))
              go_wp2_with fail
              go_roundg (30 - (i + 1))
              case measure => have := HG.out; omega
              case rel => exact ⟨i + 1, p', r', by go_num, by omega, by omega, Lib.hid rfl, Lib.hid (HA.out.below (pw_below_drewN (Below.refl _ _) _))⟩
        · as_aux_lemma =>
            go_wp2_with fail
            refine (spoil_step g1 A0 cap l p r x2 _ HA.out.cs).mono ?_
            rintro e wt ⟨rfl, hct, hkt⟩
            have hAt := HA.out.prog hkt hct hp
            have hBt := kp_blk2 hkt HBl.out hn1.out
            have HAt := Lib.hid hAt
            have HBt := Lib.hid hBt
            clear HA HBl hkt hct hAt hBt k0 k1 k2
            have k2 := (blk_cell HBt.out 2).trans (show _ = some (.int .i64 x2) from rfl)
            obtain ⟨A5, c5, h51, h52⟩ := HAt.out.rf
            have HD5 := Lib.hid h51
            have HR5 := Lib.hid h52
            have u2 := (blk_cell h51 2).trans (show _ = some (.int .i64 r) from rfl)
            have f2 := blk_frozen h51 2
            clear h51 h52
            by_cases hr : r = 0
            · subst hr
              rw [if_pos rfl] at HAt
              go_upto_region 44 with (fail)
              have HA : Hid (Ag w (wt.setCell ⟨gd, 2, none⟩ (.int .i64 x2)) g1 gd gw A0 cap l Av cv p x2 p x2) := Lib.hid (by
                have hk := (Kp.refl wt (fun k => k = gd)).setCell (p := ⟨gd, 2, none⟩) (.inl rfl) (.int .i64 x2)
                exact HAt.out.ref hk (Rf.set (blk_put HD5.out 2 _ rfl) hk HR5.out.1 HR5.out.2.1 HR5.out.2.2.1 HR5.out.2.2.2 hgdw.out) hp)
              clear u2 f2 HD5 HR5 HAt HBt k2
              generalize wt.setCell ⟨gd, 2, none⟩ (.int .i64 x2) = w6 at HA ⊢
              obtain ⟨p', hp'⟩ : ∃ p', p = p' := ⟨_, rfl⟩
              obtain ⟨r', hr'⟩ : ∃ r', x2 = r' := ⟨_, rfl⟩
              rw [hp', hr'] at HA
              -- what is told
              obtain ⟨A2, c2, hd1, _⟩ := HA.out.rf
              have hl2 : (l.drop p').length = l.length - p' := by simp
              rw [hl2] at hd1
              have u0 := (blk_cell hd1 0).trans (show _ = some (.slice A2 (l.length - p') c2) from rfl)
              have u1 := (blk_cell hd1 1).trans (show _ = some (.int .i64 (p' : Int)) from rfl)
              have u2 := (blk_cell hd1 2).trans (show _ = some (.int .i64 r') from rfl)
              have hpp := HA.out.hp
              have es : ((l.length - p' : Nat) : Int) = (l.length : Int) - p' := by omega
              obtain ⟨q, hq⟩ : ∃ q, (if r' = 0 then (if 0 < (l.length : Int) - p' then 3 else 0) else r') = q := ⟨_, rfl⟩
              have HQ := Lib.hid hq
              clear hd1 hl2 hq
              go_wp2_with fail
              go_quiet ((first | (go_at_call 22; exact Calls.quiet_of_same (at_any g1 A0 l.length cap p' r' _ HA.out.cs.cu)) | (go_at_call 23; exact Calls.quiet_of (left_q g1 A0 cap l p' r' _ HA.out.cs.cu hpp (by omega))) | (go_at_call 24; exact Calls.quiet_of_same (err_any g1 A0 l.length cap p' r' _ HA.out.cs.cu)) | (go_at_call 25; exact Calls.quiet_of (close_q g1 A0 cap l p' r' q HQ.out _ HA.out.cs.cu hpp (by omega))) | (go_at_call 36; exact Calls.quiet_of (rclose_q gd gw l p' r' q HQ.out _ (rf_drewN HA.out.rf _) hpp (by omega)))))
              go_wp2_with fail
              go_roundg (30 - (i + 1))
              case measure => have := HG.out; omega
              case rel => exact ⟨i + 1, p', r', by go_num, by omega, by omega, Lib.hid rfl, Lib.hid (HA.out.below (pw_below_drewN (Below.refl _ _) _))⟩
            · have hrb : (r == 0) = false := by simpa using hr
              rw [if_neg hr] at HAt
              have HA := HAt
              clear HAt HD5 HR5 f2
              obtain ⟨p', hp'⟩ : ∃ p', p = p' := ⟨_, rfl⟩
              obtain ⟨r', hr'⟩ : ∃ r', r = r' := ⟨_, rfl⟩
              go_upto_region 44 with (fail)
              rw [hp', hr'] at HA
              -- what is told
              obtain ⟨A2, c2, hd1, _⟩ := HA.out.rf
              have hl2 : (l.drop p').length = l.length - p' := by simp
              rw [hl2] at hd1
              have u0 := (blk_cell hd1 0).trans (show _ = some (.slice A2 (l.length - p') c2) from rfl)
              have u1 := (blk_cell hd1 1).trans (show _ = some (.int .i64 (p' : Int)) from rfl)
              have u2 := (blk_cell hd1 2).trans (show _ = some (.int .i64 r') from rfl)
              have hpp := HA.out.hp
              have es : ((l.length - p' : Nat) : Int) = (l.length : Int) - p' := by omega
              obtain ⟨q, hq⟩ : ∃ q, (if r' = 0 then (if 0 < (l.length : Int) - p' then 3 else 0) else r') = q := ⟨_, rfl⟩
              have HQ := Lib.hid hq
              clear hd1 hl2 hq
              go_wp2_with fail
              go_quiet ((first | (go_at_call 22; exact Calls.quiet_of_same (at_any g1 A0 l.length cap p' r' _ HA.out.cs.cu)) | (go_at_call 23; exact Calls.quiet_of (left_q g1 A0 cap l p' r' _ HA.out.cs.cu hpp (by omega))) | (go_at_call 24; exact Calls.quiet_of_same (err_any g1 A0 l.length cap p' r' _ HA.out.cs.cu)) | (go_at_call 25; exact Calls.quiet_of (close_q g1 A0 cap l p' r' q HQ.out _ HA.out.cs.cu hpp (by omega))) | (go_at_call 36; exact Calls.quiet_of (rclose_q gd gw l p' r' q HQ.out _ (rf_drewN HA.out.rf _) hpp (by omega)))))
              go_wp2_with fail
              go_roundg (30 - (i + 1))
              case measure => have := HG.out; omega
              case rel => exact ⟨i + 1, p', r', by go_num, by omega, by omega, Lib.hid rfl, Lib.hid (HA.out.below (pw_below_drewN (Below.refl _ _) _))⟩
      · have HWB := Lib.hid (Below.refl wr.heap.size wr)
        go_wp2_with fail
        go_loopg [21] l.length (fun gk v21 wq => ∃ j : Nat, v21 = .int .i64 j ∧ j ≤ l.length ∧ Hid (gk = l.length - j) ∧ Hid (Below wr.heap.size wr wq))
        case atStart => exact ⟨0, rfl, by omega, Lib.hid (by simp), HWB⟩
        case round =>
          clear HWB
          obtain ⟨j, rfl, hj, HG2, HWB⟩ := hrel
          have HA2 := Lib.hid (HA.out.below HWB.out)
          by_cases hltj : j < l.length
          · obtain ⟨Ad, cd, hdd, _⟩ := HA2.out.rf
            have u1 := (blk_cell hdd 1).trans (show _ = some (.int .i64 (p : Int)) from rfl)
            obtain ⟨ad1, had1, hcell1⟩ := Kd.at_int HA2.out.cs.C j (by omega) (by omega)
            obtain ⟨ad2, had2, hcell2⟩ := Kd.at_int (own_C HA2.out.was) j (by omega) (by omega)
            simp only [Int.toNat_natCast] at hcell1 hcell2
            cases had1
            cases had2
            generalize rd l j = z9 at hcell1 hcell2
            clear hdd
            by_cases hjp : j < p
            · have hjd : decide ((j : Int) < p) = true := by simpa using hjp
              go_wp2_with fail
              go_quiet (fail)
              go_wp2_with fail
              go_roundg (l.length - (j + 1))
              case measure => have := HG2.out; omega
              case rel => exact ⟨j + 1, by go_num, by omega, Lib.hid rfl, Lib.hid (pw_below_drewN HWB.out _)⟩
            · have hjd : decide ((j : Int) < p) = false := by simp; omega
              go_wp2_with fail
              go_quiet (fail)
              go_wp2_with fail
              go_roundg (l.length - (j + 1))
              case measure => have := HG2.out; omega
              case rel => exact ⟨j + 1, by go_num, by omega, Lib.hid rfl, Lib.hid (pw_below_drewN HWB.out _)⟩
          · go_wp2_with fail
            refine (known2 _).mono ?_
            rintro e w20 ⟨rfl, hb20⟩
            have HBF := Lib.hid (bel HA2.out.bl hb20)
            clear hb20
            go_wp2_with fail
            go_ret
            exact ⟨rfl, HBF.out⟩
    · have HWB := Lib.hid (Below.refl wr.heap.size wr)
      go_wp2_with fail
      go_loopg [21] l.length (fun gk v21 wq => ∃ j : Nat, v21 = .int .i64 j ∧ j ≤ l.length ∧ Hid (gk = l.length - j) ∧ Hid (Below wr.heap.size wr wq))
      case atStart => exact ⟨0, rfl, by omega, Lib.hid (by simp), HWB⟩
      case round =>
        clear HWB
        obtain ⟨j, rfl, hj, HG2, HWB⟩ := hrel
        have HA2 := Lib.hid (HA.out.below HWB.out)
        by_cases hltj : j < l.length
        · obtain ⟨Ad, cd, hdd, _⟩ := HA2.out.rf
          have u1 := (blk_cell hdd 1).trans (show _ = some (.int .i64 (p : Int)) from rfl)
          obtain ⟨ad1, had1, hcell1⟩ := Kd.at_int HA2.out.cs.C j (by omega) (by omega)
          obtain ⟨ad2, had2, hcell2⟩ := Kd.at_int (own_C HA2.out.was) j (by omega) (by omega)
          simp only [Int.toNat_natCast] at hcell1 hcell2
          cases had1
          cases had2
          generalize rd l j = z9 at hcell1 hcell2
          clear hdd
          by_cases hjp : j < p
          · have hjd : decide ((j : Int) < p) = true := by simpa using hjp
            go_wp2_with fail
            go_quiet (fail)
            go_wp2_with fail
            go_roundg (l.length - (j + 1))
            case measure => have := HG2.out; omega
            case rel => exact ⟨j + 1, by go_num, by omega, Lib.hid rfl, Lib.hid (pw_below_drewN HWB.out _)⟩
          · have hjd : decide ((j : Int) < p) = false := by simp; omega
            go_wp2_with fail
            go_quiet (fail)
            go_wp2_with fail
            go_roundg (l.length - (j + 1))
            case measure => have := HG2.out; omega
            case rel => exact ⟨j + 1, by go_num, by omega, Lib.hid rfl, Lib.hid (pw_below_drewN HWB.out _)⟩
        · go_wp2_with fail
          refine (known2 _).mono ?_
          rintro e w20 ⟨rfl, hb20⟩
          have HBF := Lib.hid (bel HA2.out.bl hb20)
          clear hb20
          go_wp2_with fail
          go_ret
          exact ⟨rfl, HBF.out⟩
theorem wf_u8R {n : Int} (h : (Lit.int .u8 n).wf = true) : 0 ≤ n ∧ n ≤ 255 := by
  simp [Lit.wf, IntKind.min, IntKind.max, IntKind.signed, IntKind.bits] at h
  omega
theorem reads_row (a0 : Option Addr) (cap0 : Nat) (z0 : List (Int)) (a1 : Option Addr) (cap1 : Nat) (z1 : List (Int × Int × Int)) (w : World) (w0 : Kd.C (Kd.int .u8) w a0 z0.length z0) (m0 : z0.length ≤ cap0) (o0 : (z0.length ≤ maxLen ∧ ∀ x0 ∈ z0, (Lit.int .u8 x0).wf = true)) (y0 : z0.length * Try.prog.bytesOf 5 ≤ 140737488351232) (c0 : cap0 ≤ maxLen ∧ (a0 = none → cap0 = 0)) (w1 : Kd.C (Kd.pair (Kd.int .i64) (Kd.pair (Kd.int .i64) (Kd.int .i64))) w a1 z1.length z1) (m1 : z1.length ≤ cap1) (o1 : (z1.length ≤ maxLen ∧ ∀ x0 ∈ z1, ((Lit.int .i64 x0.1).wf = true ∧ ((Lit.int .i64 x0.2.1).wf = true ∧ ((Lit.int .i64 x0.2.2).wf = true))))) (y1 : z1.length * Try.prog.bytesOf 52 ≤ 140737488351232) (c1 : cap1 ≤ maxLen ∧ (a1 = none → cap1 = 0)) :
    Calls Try.prog 6 #[.slice a0 z0.length cap0, .slice a1 z1.length cap1] w fun e w' => e = .returned (.bool true) ∧ Below w.heap.size w w' := by
  have hx : (if (300 : Int) < z0.length then 300 else (z0.length : Int)) = ((min z0.length 300 : Nat) : Int) := by split <;> omega
  have : maxLen ≤ 9223372036854775807 := by decide
  exact reads_walk a0 cap0 z0 _ a1 cap1 z1 hx m0 (by omega) c0.2 (fun x hx => wf_u8R (o0.2 x hx)) m1 w w0 w1
end Go.Proofs.Ytnbglbehdjhmcaa.Pk
