/- The newest one of some counters, or that there is none: lolli.Newest's contract, for lists of up to thirty. -/
import Derived.Test.YthdacjnghnnmnaaLolCore
import Derived.Deep.LoopGhost
set_option linter.unusedVariables false
set_option linter.unusedSimpArgs false
namespace Go.Proofs.Ythdacjnghnnmnaa.LolliNewest
open Go.RowKit Go.Proofs.YthdacjnghnnmnaaW.PrintWords Go.Proofs.Ythdacjnghnnmnaa.Lol
def okB (a b : Int) : Bool := cmpF a b == 0 || cmpF a b == 2
/-- Is it newer than, or the same as, each? -/
def best (l : List Int) (i : Nat) : Prop := ∀ j, j < l.length → okB (rd l i) (rd l j) = true
/-- What Newest tells. -/
def Tells (l : List Int) (r e0 : Int) : Prop := (∃ i, i < l.length ∧ best l i ∧ (∀ j, j < i → ¬ best l j) ∧ r = rd l i ∧ e0 = 0) ∨ ((∀ j, j < l.length → ¬ best l j) ∧ r = 0 ∧ e0 = 8)
def NewestSays (l : List Int) (w : World) (e : Ending) (w' : World) : Prop := ∃ r e0, e = .returned (.tuple #[.int .i64 r, .int .i64 e0]) ∧ Tells l r e0 ∧ Below w.heap.size w w'
theorem rd_mem {l : List Int} {k : Nat} (h : k < l.length) : rd l k ∈ l := by
  unfold rd
  simp [h]
theorem cmp4 (a b : Int) : cmpF a b = 0 ∨ cmpF a b = 1 ∨ cmpF a b = 2 ∨ cmpF a b = 3 := by have := cmp_vals a b; omega
theorem compare_lit (a b c : Int) (hc : cmpF a b = c) (w : World) (ha : 0 ≤ a ∧ a ≤ 255) (hb : 0 ≤ b ∧ b ≤ 255) :
    Calls Try.prog 42 #[.int .i64 a, .int .i64 b] w fun e w' => e = .returned (.int .i64 c) ∧ w' = w := by
  subst hc; exact compare_any a b w ha.1 ha.2 hb.1 hb.2
set_option maxHeartbeats 1000000 in
theorem newest (A : Option Addr) (c : Nat) (l : List Int) (w : World) (hr : Kd.C (Kd.int .i64) w A l.length l) (hc : l.length ≤ c) (hv : ∀ x ∈ l, 0 ≤ x ∧ x ≤ 255) (hl : 0 < l.length) (hl2 : l.length ≤ 30)
  (V : Calls Try.prog 29 #[.slice A l.length c] w fun e w' => e = .returned (.bool true) ∧ Below w.heap.size w w') :
    Calls Try.prog 27 #[.slice A l.length c] w (NewestSays l w) := by
  have HR := Lib.hid hr
  have HV := Lib.hid hv
  have HVV := Lib.hid V
  clear hr hv V
  have h00 : ((l.length : Int) == 0) = false := by simpa using (by omega : l.length ≠ 0)
  go_enter Try.func27, Try.ntmps27
  go_wp2_with fail
  go_step3
  go_wp2_with fail
  refine HVV.out.mono ?_
  rintro e w1 ⟨rfl, hw1⟩
  go_wp2_with fail
  go_step3
  go_wp2_with fail
  have HB := Lib.hid hw1
  clear hw1
  go_loopg [19] l.length (fun g v19 wr => ∃ k : Nat, v19 = .int .i64 k ∧ k ≤ l.length ∧ Hid (g = l.length - k) ∧ Hid (∀ i, i < k → ¬ best l i) ∧ Hid (Below w.heap.size w wr))
  case atStart => exact ⟨0, rfl, by omega, Lib.hid (by simp), Lib.hid (fun _ h => by omega), HB⟩
  case round =>
    clear HB
    obtain ⟨k, rfl, hk, HG, HN, HB⟩ := hrel
    obtain ⟨wo, rfl⟩ : ∃ wo : World, wo = wr := ⟨_, rfl⟩
    obtain ⟨go, rfl⟩ : ∃ g : Nat, g = gk := ⟨_, rfl⟩
    have HR1 := Lib.hid (Kd.C_below HR.out HB.out)
    by_cases hlt : k < l.length
    · obtain ⟨ad, had, hcell⟩ := Kd.at_int HR1.out k (by omega) (by omega)
      simp only [Int.toNat_natCast] at hcell
      cases had
      have ha := HV.out _ (rd_mem hlt)
      have HQ := Lib.hid (Eq.refl (rd l k))
      generalize hA : rd l k = a at hcell ha
      have HA := Lib.hid hA
      clear hA
      obtain ⟨ha1, ha2⟩ := ha
      go_wp2_with fail
      go_loopg [25] l.length (fun g2 v25 w2 => ∃ j : Nat, v25 = .int .i64 j ∧ j ≤ l.length ∧ Hid (g2 = l.length - j) ∧ Hid (∀ i, i < j → okB a (rd l i) = true) ∧ Hid (Below w.heap.size w w2))
      case atStart => exact ⟨0, rfl, by omega, Lib.hid (by simp), Lib.hid (fun _ h => by omega), HB⟩
      case round =>
        obtain ⟨j, rfl, hj, HG2, HN2, HB2⟩ := hrel
        have HR2 := Lib.hid (Kd.C_below HR.out HB2.out)
        by_cases hlt2 : j < l.length
        · obtain ⟨ad2, had2, hcell2⟩ := Kd.at_int HR2.out j (by omega) (by omega)
          simp only [Int.toNat_natCast] at hcell2
          cases had2
          have hb := HV.out _ (rd_mem hlt2)
          generalize hBB : rd l j = b at hcell2 hb
          have HBB := Lib.hid hBB
          clear hBB
          rcases cmp4 a b with h | h | h | h
          · have C := Lib.hid (compare_lit a b _ h wr ⟨ha1, ha2⟩ hb)
            have HN3 := Lib.hid (show ∀ i, i < j + 1 → okB a (rd l i) = true from fun i hi => by
              by_cases he : i = j
              · subst he; rw [HBB.out]; unfold okB; rw [h]; rfl
              · exact HN2.out i (by omega))
            clear h
            go_wp2_with fail
            refine C.out.mono ?_
            rintro e w3 ⟨rfl, rfl⟩
            go_wp2_with fail
            go_roundg (l.length - (j + 1))
            case measure => have := HG2.out; omega
            case rel => exact ⟨j + 1, by go_num, by omega, Lib.hid rfl, HN3, HB2⟩
          · have C := Lib.hid (compare_lit a b _ h wr ⟨ha1, ha2⟩ hb)
            have HN3 := Lib.hid (show ∀ i, i < k + 1 → ¬ best l i from fun i hi => by
              by_cases he : i = k
              · subst he
                intro hbest
                have h5 := hbest j hlt2
                rw [HA.out, HBB.out] at h5
                unfold okB at h5; rw [h] at h5; cases h5
              · exact HN.out i (by omega))
            clear h
            go_wp2_with fail
            refine C.out.mono ?_
            rintro e w3 ⟨rfl, rfl⟩
            go_wp2_with fail
            go_roundg (l.length - (k + 1))
            case measure => have := HG.out; omega
            case rel => exact ⟨k + 1, by go_num, by omega, Lib.hid rfl, HN3, HB2⟩
          · have C := Lib.hid (compare_lit a b _ h wr ⟨ha1, ha2⟩ hb)
            have HN3 := Lib.hid (show ∀ i, i < j + 1 → okB a (rd l i) = true from fun i hi => by
              by_cases he : i = j
              · subst he; rw [HBB.out]; unfold okB; rw [h]; rfl
              · exact HN2.out i (by omega))
            clear h
            go_wp2_with fail
            refine C.out.mono ?_
            rintro e w3 ⟨rfl, rfl⟩
            go_wp2_with fail
            go_roundg (l.length - (j + 1))
            case measure => have := HG2.out; omega
            case rel => exact ⟨j + 1, by go_num, by omega, Lib.hid rfl, HN3, HB2⟩
          · have C := Lib.hid (compare_lit a b _ h wr ⟨ha1, ha2⟩ hb)
            have HN3 := Lib.hid (show ∀ i, i < k + 1 → ¬ best l i from fun i hi => by
              by_cases he : i = k
              · subst he
                intro hbest
                have h5 := hbest j hlt2
                rw [HA.out, HBB.out] at h5
                unfold okB at h5; rw [h] at h5; cases h5
              · exact HN.out i (by omega))
            clear h
            go_wp2_with fail
            refine C.out.mono ?_
            rintro e w3 ⟨rfl, rfl⟩
            go_wp2_with fail
            go_roundg (l.length - (k + 1))
            case measure => have := HG.out; omega
            case rel => exact ⟨k + 1, by go_num, by omega, Lib.hid rfl, HN3, HB2⟩
        · have HE := Lib.hid (show Tells l a 0 from .inl ⟨k, hlt, fun i hi => by rw [HA.out]; exact HN2.out i (by omega), HN.out, HA.out.symm, rfl⟩)
          go_wp2_with fail
          try rw [Exit.noGoto_ret]
          go_ret2
          exact ⟨_, _, rfl, HE.out, HB2.out⟩
    · have HE := Lib.hid (show Tells l 0 8 from .inr ⟨fun i hi => HN.out i (by omega), rfl, rfl⟩)
      go_wp2_with fail
      try rw [Exit.noGoto_ret]
      go_ret2
      exact ⟨_, _, rfl, HE.out, HB.out⟩

theorem valid_l0 (l : List Int) (hl : l.length ≤ 30) : ∀ (d k : Nat) (i : Int), 0 ≤ i → i ≤ l.length → (l.length : Int) - i = d → d < k →
    ∃ r, PLolliCompares.lolli_Valid.l0 k l (l.length : Int) i = some r ∧ (r = true ↔ ∀ j : Nat, i ≤ j → j < l.length → vB (rd l j) = true) := by
  intro d
  induction d with
  | zero =>
    intro k i h0 h1 hd hk
    obtain ⟨k, rfl⟩ : ∃ m, k = m + 1 := ⟨k - 1, by omega⟩
    refine ⟨true, ?_, by simp; intro j h2 h3; omega⟩
    simp only [PLolliCompares.lolli_Valid.l0]; rw [if_neg (by omega)]
  | succ d ih =>
    intro k i h0 h1 hd hk
    obtain ⟨k, rfl⟩ : ∃ m, k = m + 1 := ⟨k - 1, by omega⟩
    obtain ⟨n, rfl⟩ := Int.eq_ofNat_of_zero_le h0
    have hw : wrap64 ((n : Int) + 1) = n + 1 := by unfold wrap64; omega
    by_cases hv : vB (rd l n) = true
    · obtain ⟨r, hr, hr2⟩ := ih k (n + 1) (by omega) (by omega) (by omega) (by omega)
      refine ⟨r, ?_, ?_⟩
      · have hv' := hv
        unfold vB at hv'; rw [decide_eq_true_eq] at hv'
        simp only [PLolliCompares.lolli_Valid.l0]; rw [if_pos (by omega), if_pos (by omega), if_pos (by omega), if_neg (by omega), if_neg (by omega), hw]; exact hr
      · rw [hr2]
        constructor
        · intro h j h2 h3
          by_cases he : j = n
          · subst he; exact hv
          · exact h j (by omega) h3
        · intro h j h2 h3; exact h j (by omega) h3
    · refine ⟨false, ?_, ?_⟩
      · have hv' := hv
        unfold vB at hv'; rw [decide_eq_true_eq] at hv'
        simp only [PLolliCompares.lolli_Valid.l0]; rw [if_pos (by omega), if_pos (by omega), if_pos (by omega)]
        by_cases h5 : rd l n < 0
        · rw [if_pos h5]
        · rw [if_neg h5, if_pos (by omega)]
      · constructor
        · intro h; cases h
        · intro h; exact absurd (h n (by omega) (by omega)) hv
def allV (l : List Int) : Bool := decide (∀ j, j < l.length → vB (rd l j) = true)
theorem Valid_slice (A : Option Addr) (c : Nat) (l : List Int) (r : Bool) (h : allV l = r) (w : World) (hr : Kd.C (Kd.int .i64) w A l.length l) (hc : l.length ≤ c) (hl2 : l.length ≤ 30) :
    Calls Try.prog 29 #[.slice A l.length c] w fun e w' => e = .returned (.bool r) ∧ Below w.heap.size w w' := by
  obtain ⟨r', h1, h2⟩ := valid_l0 l hl2 l.length 40 0 (by omega) (by omega) (by omega) (by omega)
  have h3 : r' = r := by
    rw [← h, Bool.eq_iff_iff, h2]
    unfold allV
    rw [decide_eq_true_eq]
    exact ⟨fun h j hj => h j (by omega) hj, fun h j _ hj => h j hj⟩
  subst h3
  refine (PLolliCompares.lolli_Valid.calls 40 A c l r' w hr hc h1).mono ?_
  rintro e w' ⟨rfl, hd⟩
  exact ⟨rfl, hd.below⟩
theorem newest_no (A : Option Addr) (c : Nat) (l : List Int) (w : World) (hr : Kd.C (Kd.int .i64) w A l.length l) (hc : l.length ≤ c) (hl2 : l.length ≤ 30) (hv : allV l = false) :
    Calls Try.prog 27 #[.slice A l.length c] w fun e w' => e = .returned (.tuple #[.int .i64 0, .int .i64 1]) ∧ Below w.heap.size w w' := by
  have V := Lib.hid (Valid_slice A c l false hv w hr hc hl2)
  have h0 : 0 < l.length := by
    cases l with
    | nil => simp [allV] at hv
    | cons _ _ => simp
  clear hr hv
  have h00 : ((l.length : Int) == 0) = false := by simpa using (by omega : l.length ≠ 0)
  go_enter Try.func27, Try.ntmps27
  go_wp2_with fail
  go_step3
  go_wp2_with fail
  refine V.out.mono ?_
  rintro e w1 ⟨rfl, hw1⟩
  go_wp2_with fail
  try rw [Exit.noGoto_ret]
  go_ret2
  exact ⟨rfl, hw1⟩
theorem newest_nil (A : Option Addr) (c : Nat) (w : World) :
    Calls Try.prog 27 #[.slice A 0 c] w fun e w' => e = .returned (.tuple #[.int .i64 0, .int .i64 1]) ∧ Below w.heap.size w w' := by
  go_enter Try.func27, Try.ntmps27
  go_wp2_with fail
  go_step3
  go_wp2_with fail
  try rw [Exit.noGoto_ret]
  go_ret2
  exact ⟨rfl, Below.refl _ _⟩
end Go.Proofs.Ythdacjnghnnmnaa.LolliNewest
