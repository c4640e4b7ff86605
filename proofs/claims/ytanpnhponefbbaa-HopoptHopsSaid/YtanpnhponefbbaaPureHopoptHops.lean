/- Whether any hop is consistent, and how any option goes on, or what is wrong, is the document's: plain numbers and bools, no condition. -/
import Derived.Test.YtanpnhponefbbaaHHopoptHops4
set_option linter.unusedSimpArgs false
set_option linter.unusedVariables false
namespace Go.Proofs.Ytanpnhponefbbaa.PureHopoptHops
open Go.RowKit Go.Proofs.Ytanpnhponefbbaa.PHopoptHops Go.Proofs.YtanpnhponefbbaaW.PrintWords Go.Proofs.YtanpnhponefbbaaW.PrintLast Go.Proofs.YtanpnhponefbbaaW.PrintMore

theorem span1 : pack_span.f 1 = some 256 := by decide +kernel
theorem span2 : pack_span.f 2 = some 65536 := by decide +kernel

theorem fits1 (k : Nat) (hk : 4 ≤ k) (a : Int) : pack_Fits.f k 1 [a] = some (decide (0 ≤ a ∧ a ≤ 255)) := by
  obtain ⟨k, rfl⟩ : ∃ m, k = m + 4 := ⟨k - 4, by omega⟩
  simp only [pack_Fits.f, span1, Option.bind_some, pack_Fits.l0, rd, wrap64]
  by_cases h1 : a < 0 <;> by_cases h2 : a ≥ 256 <;> simp [h1, h2] <;> omega

theorem fits2 (k : Nat) (hk : 4 ≤ k) (a : Int) : pack_Fits.f k 2 [a] = some (decide (0 ≤ a ∧ a ≤ 65535)) := by
  obtain ⟨k, rfl⟩ : ∃ m, k = m + 4 := ⟨k - 4, by omega⟩
  simp only [pack_Fits.f, span2, Option.bind_some, pack_Fits.l0, rd, wrap64]
  by_cases h1 : a < 0 <;> by_cases h2 : a ≥ 65536 <;> simp [h1, h2] <;> omega

theorem fits22 (k : Nat) (hk : 4 ≤ k) (a b : Int) : pack_Fits.f k 2 [a, b] = some (decide ((0 ≤ a ∧ a ≤ 65535) ∧ 0 ≤ b ∧ b ≤ 65535)) := by
  obtain ⟨k, rfl⟩ : ∃ m, k = m + 4 := ⟨k - 4, by omega⟩
  simp only [pack_Fits.f, span2, Option.bind_some, pack_Fits.l0, rd, wrap64]
  by_cases h1 : a < 0 <;> by_cases h2 : a ≥ 65536 <;> by_cases h3 : b < 0 <;> by_cases h4 : b ≥ 65536 <;> simp [h1, h2, h3, h4] <;> omega

def okB (i r own least : Int) : Bool := decide ((0 ≤ i ∧ i ≤ 255) ∧ (0 ≤ r ∧ r ≤ 65535) ∧ (0 ≤ own ∧ own ≤ 65535) ∧ 1 ≤ least ∧ least ≤ 65535)
def consB (d : Bool) (r own least : Int) : Bool := if d = true then decide (wrap64 (r.tdiv least) < wrap64 (own.tdiv least)) else decide (wrap64 (r.tdiv least) > wrap64 (own.tdiv least))

theorem check_f (k : Nat) (hk : 4 ≤ k) (a b c : Bool) (i r : Int) : hopopt_Check.f k a b c i r = some (if (0 ≤ i ∧ i ≤ 255) ∧ 0 ≤ r ∧ r ≤ 65535 then 0 else 1) := by
  unfold hopopt_Check.f
  rw [fits1 k hk, fits2 k hk]
  by_cases h1 : 0 ≤ i ∧ i ≤ 255 <;> by_cases h2 : 0 ≤ r ∧ r ≤ 65535 <;> simp [h1, h2]

theorem cons_f (k : Nat) (hk : 4 ≤ k) (a b c : Bool) (i r own least : Int) : hopopt_Consistent.f k a b c i r own least = some (if okB i r own least = true then (consB a r own least, 0) else (false, 1)) := by
  unfold hopopt_Consistent.f
  rw [check_f k hk, fits22 k hk]
  obtain ⟨k, rfl⟩ : ∃ m, k = m + 1 := ⟨k - 1, by omega⟩
  by_cases h1 : (0 ≤ i ∧ i ≤ 255) ∧ 0 ≤ r ∧ r ≤ 65535
  · by_cases h2 : (0 ≤ own ∧ own ≤ 65535) ∧ 0 ≤ least ∧ least ≤ 65535
    · by_cases h3 : least = 0
      · have h4 : okB i r own least = false := by unfold okB; rw [decide_eq_false_iff_not]; omega
        simp [h1, h2, h3, h4, hopopt_Consistent.j0]
        subst h3; simp [h4]
      · have h4 : okB i r own least = true := by unfold okB; rw [decide_eq_true_eq]; omega
        cases a <;> simp [h1, h2, h3, h4, hopopt_Consistent.j0, consB]
    · have h4 : okB i r own least = false := by unfold okB; rw [decide_eq_false_iff_not]; omega
      simp only [h1, and_self, if_true, Option.bind_some, h2, decide_false, Bool.false_eq_true, if_false, hopopt_Consistent.j0, h4]
  · have h4 : okB i r own least = false := by unfold okB; rw [decide_eq_false_iff_not]; omega
    simp only [h1, if_false, Option.bind_some, Int.reduceEq, if_false, hopopt_Consistent.j0, h4, Bool.false_eq_true]
    simp

def hopV (a b c : Bool) (i r own least : Int) : Bool × Bool × Bool × Int × Int × Bool × Int :=
  if okB i r own least = true then (if consB a r own least = true then (a, b, c, i, own, true, 0) else if b = true then (false, false, false, 0, 0, false, 11) else (a, true, c, i, own, false, 0)) else (false, false, false, 0, 0, false, 1)

theorem hop_f (k : Nat) (hk : 4 ≤ k) (a b c : Bool) (i r own least : Int) : hopopt_Hop.f k a b c i r own least = some (hopV a b c i r own least) := by
  unfold hopopt_Hop.f hopV
  rw [cons_f k hk]
  by_cases h : okB i r own least = true
  · by_cases h2 : consB a r own least = true
    · cases b <;> simp [h, h2]
    · cases b <;> simp [h, h2]
  · simp [h]

theorem known_f (k : Nat) (hk : 8 ≤ k) : rivuletlaw06_known.f k = some true := at_rounds rivuletlaw06_known.mono hk (by decide +kernel)

theorem right_f (a b c : Bool) (i r : Int) : rivuletref06_Right.f a b c i r = some (decide ((0 ≤ i ∧ i ≤ 255) ∧ 0 ≤ r ∧ r ≤ 65535)) := by
  unfold rivuletref06_Right.f
  by_cases h1 : i ≥ 0 <;> by_cases h2 : i ≤ 255 <;> by_cases h3 : r ≥ 0 <;> simp [h1, h2, h3] <;> omega

theorem refcons_f (a b c : Bool) (i r own least : Int) (h : okB i r own least = true) : rivuletref06_Consistent.f a b c i r own least = some (consB a r own least) := by
  have h0 : ¬ least = 0 := by unfold okB at h; rw [decide_eq_true_eq] at h; omega
  unfold rivuletref06_Consistent.f rivuletref06_Step.f consB
  cases a
  · simp [h0]
  · simp only [h0, if_false, Option.bind_some, if_true]
    split <;> simp [*]

theorem refhop_f (k : Nat) (hk : 4 ≤ k) (a b c : Bool) (i r own least : Int) : rivuletref06_Hop.f k a b c i r own least = some (hopV a b c i r own least) := by
  obtain ⟨k, rfl⟩ : ∃ m, k = m + 4 := ⟨k - 4, by omega⟩
  by_cases h : okB i r own least = true
  · have h2 := refcons_f a b c i r own least h
    unfold hopV rivuletref06_Hop.f
    rw [right_f, if_pos h]
    have h' := h
    unfold okB at h'; rw [decide_eq_true_eq] at h'
    have h3 : ¬ own < 0 := by omega
    have h4 : ¬ own > 65535 := by omega
    have h5 : ¬ least < 1 := by omega
    have h6 : ¬ least > 65535 := by omega
    by_cases h7 : consB a r own least = true
    · simp [h', h3, h4, h5, h6, rivuletref06_Hop.j0, h2, h7, rivuletref06_Hop.j1]
    · cases b <;> simp [h', h3, h4, h5, h6, rivuletref06_Hop.j0, h2, h7, rivuletref06_Hop.j1]
  · have h' := h
    unfold okB at h'; rw [decide_eq_true_eq] at h'
    unfold hopV rivuletref06_Hop.f
    rw [right_f, if_neg h]
    by_cases h1 : (0 ≤ i ∧ i ≤ 255) ∧ 0 ≤ r ∧ r ≤ 65535
    · by_cases h3 : own < 0
      · simp [h1, h3, rivuletref06_Hop.j0]
      · by_cases h4 : own > 65535
        · simp [h1, h3, h4, rivuletref06_Hop.j0]
        · by_cases h5 : least < 1
          · simp [h1, h3, h4, h5, rivuletref06_Hop.j0]
          · have h6 : least > 65535 := by omega
            simp [h1, h3, h4, h5, h6, rivuletref06_Hop.j0]
    · simp [h1, rivuletref06_Hop.j0]

theorem mark_f (k : Nat) (hk : 4 ≤ k) (a b c : Bool) (i r own : Int) (d : Bool) : hopopt_Mark.f k a b c i r own d = some (if (0 ≤ i ∧ i ≤ 255) ∧ (0 ≤ r ∧ r ≤ 65535) ∧ 0 ≤ own ∧ own ≤ 65535 then (d, b, c, i, own, 0) else (false, false, false, 0, 0, 1)) := by
  unfold hopopt_Mark.f
  rw [check_f k hk, fits2 k hk]
  by_cases h1 : (0 ≤ i ∧ i ≤ 255) ∧ 0 ≤ r ∧ r ≤ 65535 <;> by_cases h2 : 0 ≤ own ∧ own ≤ 65535 <;> simp [h1, h2]

theorem pure (a b c : Bool) (i r own least : Int) (d : Bool) : rivuletlaw06_HopoptHops.f 25 a b c i r own least d = some true := by
  unfold rivuletlaw06_HopoptHops.f rivuletlaw06_To.f rivuletlaw06_Of.f
  simp only [Option.bind_some, hop_f 25 (by omega), refhop_f 25 (by omega), cons_f 25 (by omega), mark_f 25 (by omega), if_true, bne_self_eq_false, beq_self_eq_true, Bool.not_true, Bool.or_self, Bool.false_eq_true, if_false, rivuletlaw06_HopoptHops.j0, right_f, decide_eq_true_eq]
  by_cases h1 : (0 ≤ i ∧ i ≤ 255) ∧ 0 ≤ r ∧ r ≤ 65535
  · by_cases h2 : 0 ≤ own ∧ own ≤ 65535
    · have h3 : ¬ own < 0 := by omega
      have h4 : ¬ own > 65535 := by omega
      by_cases h5 : 1 ≤ least ∧ least ≤ 65535
      · have h : okB i r own least = true := by unfold okB; rw [decide_eq_true_eq]; omega
        have h6 : ¬ least < 1 := by omega
        have h7 : ¬ least > 65535 := by omega
        simp [h1, h2, h3, h4, h6, h7, h, rivuletlaw06_HopoptHops.j1, rivuletlaw06_Of.f, rivuletlaw06_HopoptHops.j2, rivuletlaw06_HopoptHops.j3, known_f, refcons_f _ _ _ _ _ _ _ h]
      · have h : okB i r own least = false := by unfold okB; rw [decide_eq_false_iff_not]; omega
        by_cases h6 : least < 1
        · simp [h1, h2, h3, h4, h6, h, rivuletlaw06_HopoptHops.j1, rivuletlaw06_Of.f, rivuletlaw06_HopoptHops.j2, rivuletlaw06_HopoptHops.j3, known_f]
        · have h7 : least > 65535 := by omega
          simp [h1, h2, h3, h4, h6, h7, h, rivuletlaw06_HopoptHops.j1, rivuletlaw06_Of.f, rivuletlaw06_HopoptHops.j2, rivuletlaw06_HopoptHops.j3, known_f]
    · have h : okB i r own least = false := by unfold okB; rw [decide_eq_false_iff_not]; omega
      by_cases h3 : own < 0
      · simp [h1, h2, h3, h, rivuletlaw06_HopoptHops.j1, known_f]
      · have h4 : own > 65535 := by omega
        simp [h1, h2, h3, h4, h, rivuletlaw06_HopoptHops.j1, known_f]
  · have h : okB i r own least = false := by unfold okB; rw [decide_eq_false_iff_not]; omega
    have h2 : ¬ ((0 ≤ i ∧ i ≤ 255) ∧ (0 ≤ r ∧ r ≤ 65535) ∧ 0 ≤ own ∧ own ≤ 65535) := fun h => h1 ⟨h.1, h.2.1⟩
    simp only [h1, if_false, h2, h, Bool.false_eq_true, rivuletlaw06_HopoptHops.j1, if_true, known_f 23 (by omega), Option.bind_some]
    simp

end Go.Proofs.Ytanpnhponefbbaa.PureHopoptHops
