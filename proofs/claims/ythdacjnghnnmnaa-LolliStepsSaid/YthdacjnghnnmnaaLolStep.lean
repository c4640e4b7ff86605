/- Contracts of lolli.Steps and lolli.Next and of the document's Next and Steps. -/
import Derived.Test.YthdacjnghnnmnaaLolCore
set_option linter.unusedVariables false
set_option linter.unusedSimpArgs false
namespace Go.Proofs.Ythdacjnghnnmnaa.Lol
open Go.RowKit Go.Proofs.YthdacjnghnnmnaaW.PrintWords
def stepsF (a n : Int) : Int := if a ≥ 128 then (if n < 256 - a then a + n else (n - (256 - a)) % 128) else (a + n) % 128
theorem valid_f (k : Nat) (hk : 3 ≤ k) (a : Int) : PLolliSteps.lolli_Valid.f k [a] = some (vB a) := by
  obtain ⟨k, rfl⟩ : ∃ m, k = m + 3 := ⟨k - 3, by omega⟩
  simp only [PLolliSteps.lolli_Valid.f, PLolliSteps.lolli_Valid.l0, rd, wrap64, vB]
  by_cases h1 : a < 0 <;> by_cases h2 : a ≥ 256 <;> simp [h1, h2] <;> omega
theorem wf_bd {n : Int} (h : (Lit.int .i64 n).wf = true) : -9223372036854775808 ≤ n ∧ n ≤ 9223372036854775807 := by
  simp [Lit.wf, IntKind.min, IntKind.max, IntKind.signed, IntKind.bits] at h
  omega
theorem Steps_ok (a n c : Int) (ha : 0 ≤ a ∧ a ≤ 255) (hn : 0 ≤ n ∧ n ≤ 9223372036854775807) (hc : stepsF a n = c) (w : World) :
    Calls Try.prog 26 #[.int .i64 a, .int .i64 n] w fun e w' => e = .returned (.tuple #[.int .i64 c, .int .i64 0]) ∧ Below w.heap.size w w' := by
  subst hc
  refine (PLolliSteps.lolli_Steps.calls 5 a n (stepsF a n) 0 w ?_).mono ?_
  · unfold PLolliSteps.lolli_Steps.f stepsF
    have hv : vB a = true := by unfold vB; rw [decide_eq_true_eq]; exact ha
    have h0 : decide (n < 0) = false := by rw [decide_eq_false_iff_not]; omega
    rw [valid_f 5 (by omega), hv, h0]
    simp only [Option.bind_some, if_true, PLolliSteps.lolli_Steps.j0, Bool.false_eq_true, if_false]
    have e1 : wrap64 (256 - a) = 256 - a := by unfold wrap64; omega
    by_cases h1 : a ≥ 128
    · rw [if_pos h1, if_pos h1, e1]
      by_cases h2 : n < 256 - a
      · rw [if_pos h2, if_pos h2]
        have : wrap64 (a + n) = a + n := by unfold wrap64; omega
        rw [this]
      · rw [if_neg h2, if_neg h2]
        have e2 : wrap64 (n - (256 - a)) = n - (256 - a) := by unfold wrap64; omega
        have e3 : Int.tmod (n - (256 - a)) 128 = (n - (256 - a)) % 128 := Int.tmod_eq_emod_of_nonneg (by omega)
        have e4 : wrap64 (0 + (n - (256 - a)) % 128) = (n - (256 - a)) % 128 := by unfold wrap64; omega
        have e5 : Int.tmod ((n - (256 - a)) % 128) 128 = (n - (256 - a)) % 128 % 128 := Int.tmod_eq_emod_of_nonneg (by omega)
        rw [e2, e3, e4, e5]
        have e6 : (n - (256 - a)) % 128 % 128 = (n - (256 - a)) % 128 := by omega
        rw [e6]
    · rw [if_neg h1, if_neg h1]
      have e3 : Int.tmod n 128 = n % 128 := Int.tmod_eq_emod_of_nonneg (by omega)
      have e4 : wrap64 (a + n % 128) = a + n % 128 := by unfold wrap64; omega
      have e5 : Int.tmod (a + n % 128) 128 = (a + n % 128) % 128 := Int.tmod_eq_emod_of_nonneg (by omega)
      have e6 : (a + n % 128) % 128 = (a + n) % 128 := by omega
      rw [e3, e4, e5, e6]
  · rintro e w' ⟨rfl, hd⟩
    exact ⟨rfl, hd⟩
theorem Steps_no (a n : Int) (h : vB a = false ∨ n < 0) (w : World) :
    Calls Try.prog 26 #[.int .i64 a, .int .i64 n] w fun e w' => e = .returned (.tuple #[.int .i64 0, .int .i64 1]) ∧ Below w.heap.size w w' := by
  refine (PLolliSteps.lolli_Steps.calls 5 a n 0 1 w ?_).mono ?_
  · unfold PLolliSteps.lolli_Steps.f
    rw [valid_f 5 (by omega)]
    simp only [Option.bind_some, PLolliSteps.lolli_Steps.j0]
    rcases h with h | h
    · simp [h]
    · simp [h]
  · rintro e w' ⟨rfl, hd⟩
    exact ⟨rfl, hd⟩
def nextF (a : Int) : Int := if a = 255 ∨ a = 127 then 0 else a + 1
theorem Next_ok (a c : Int) (ha : 0 ≤ a ∧ a ≤ 255) (hc : nextF a = c) (w : World) :
    Calls Try.prog 28 #[.int .i64 a] w fun e w' => e = .returned (.tuple #[.int .i64 c, .int .i64 0]) ∧ Below w.heap.size w w' := by
  subst hc
  refine (PLolliSteps.lolli_Next.calls 5 a (nextF a) 0 w ?_).mono ?_
  · unfold PLolliSteps.lolli_Next.f PLolliSteps.lolli_next.f nextF
    have hv : vB a = true := by unfold vB; rw [decide_eq_true_eq]; exact ha
    rw [valid_f 5 (by omega), hv]
    have : wrap64 (a + 1) = a + 1 := by unfold wrap64; omega
    by_cases h1 : a = 255 <;> by_cases h2 : a = 127 <;> simp [h1, h2, this]
  · rintro e w' ⟨rfl, hd⟩
    exact ⟨rfl, hd⟩
theorem Next_no (a : Int) (h : vB a = false) (w : World) :
    Calls Try.prog 28 #[.int .i64 a] w fun e w' => e = .returned (.tuple #[.int .i64 0, .int .i64 1]) ∧ Below w.heap.size w w' := by
  refine (PLolliSteps.lolli_Next.calls 5 a 0 1 w ?_).mono ?_
  · unfold PLolliSteps.lolli_Next.f
    rw [valid_f 5 (by omega), h]
    rfl
  · rintro e w' ⟨rfl, hd⟩
    exact ⟨rfl, hd⟩
theorem rnext_f (a : Int) (ha : 0 ≤ a ∧ a ≤ 255) : PLolliSteps.rivuletref01_Next.f a = some (nextF a) := by
  unfold PLolliSteps.rivuletref01_Next.f nextF
  have : wrap64 (a + 1) = a + 1 := by unfold wrap64; omega
  rw [this]
  by_cases h1 : a = 255
  · simp [h1]
  · by_cases h2 : a = 127
    · simp [h2]
    · have h3 : ¬ a + 1 = 128 := by omega
      have h4 : ¬ a + 1 = 256 := by omega
      simp [h1, h2, h3, h4]
theorem rNext_any (a c : Int) (ha : 0 ≤ a ∧ a ≤ 255) (hc : nextF a = c) (w : World) :
    Calls Try.prog 30 #[.int .i64 a] w fun e w' => e = .returned (.int .i64 c) ∧ Below w.heap.size w w' := by
  subst hc
  refine (PLolliSteps.rivuletref01_Next.calls a _ w (rnext_f a ha)).mono ?_
  rintro e w' ⟨rfl, hd⟩
  first | exact ⟨rfl, hd.below⟩ | (subst hd; exact ⟨rfl, Below.refl _ _⟩)
theorem next_stepsF (a i : Int) (ha : 0 ≤ a ∧ a ≤ 255) (hi : 0 ≤ i) : nextF (stepsF a i) = stepsF a (i + 1) ∧ 0 ≤ stepsF a i ∧ stepsF a i ≤ 255 := by
  unfold nextF stepsF
  by_cases h1 : a ≥ 128
  · simp only [if_pos h1]
    by_cases h2 : i < 256 - a
    · simp only [if_pos h2]
      by_cases h3 : i + 1 < 256 - a
      · simp only [if_pos h3]; split <;> omega
      · simp only [if_neg h3]; split <;> omega
    · have h3 : ¬ i + 1 < 256 - a := by omega
      simp only [if_neg h2, if_neg h3]; split <;> omega
  · simp only [if_neg h1]; split <;> omega
theorem rsteps_l (a n : Int) (ha : 0 ≤ a ∧ a ≤ 255) (hn : n ≤ 512) : ∀ (d k : Nat) (i : Int), 0 ≤ i → i ≤ n → n - i = d → d < k → PLolliSteps.rivuletref01_Steps.l0 k (stepsF a i) n i = some (stepsF a n) := by
  intro d
  induction d with
  | zero =>
    intro k i h0 h1 hd hk
    obtain ⟨k, rfl⟩ : ∃ m, k = m + 1 := ⟨k - 1, by omega⟩
    obtain rfl : i = n := by omega
    simp only [PLolliSteps.rivuletref01_Steps.l0]; rw [if_neg (by omega)]
  | succ d ih =>
    intro k i h0 h1 hd hk
    obtain ⟨k, rfl⟩ : ∃ m, k = m + 1 := ⟨k - 1, by omega⟩
    have hw : wrap64 (i + 1) = i + 1 := by unfold wrap64; omega
    obtain ⟨h2, h3⟩ := next_stepsF a i ha h0
    simp only [PLolliSteps.rivuletref01_Steps.l0]
    rw [if_pos (by omega), rnext_f _ h3, h2, hw]
    exact ih k (i + 1) (by omega) (by omega) (by omega) (by omega)
theorem rSteps_any (a n c : Int) (ha : 0 ≤ a ∧ a ≤ 255) (hn : 0 ≤ n ∧ n ≤ 512) (hc : stepsF a n = c) (w : World) :
    Calls Try.prog 31 #[.int .i64 a, .int .i64 n] w fun e w' => e = .returned (.int .i64 c) ∧ Below w.heap.size w w' := by
  subst hc
  refine (PLolliSteps.rivuletref01_Steps.calls 600 a n (stepsF a n) w ?_).mono ?_
  · have h0 : stepsF a 0 = a := by unfold stepsF; split <;> (try split) <;> omega
    have := rsteps_l a n ha hn.2 n.toNat 600 0 (by omega) (by omega) (by omega) (by omega)
    rw [h0] at this
    unfold PLolliSteps.rivuletref01_Steps.f
    exact this
  · rintro e w' ⟨rfl, hd⟩
    exact ⟨rfl, hd.below⟩
theorem steps_adds (a n m : Int) (ha : 0 ≤ a ∧ a ≤ 255) (hn : 0 ≤ n) (hm : 0 ≤ m) : stepsF (stepsF a n) m = stepsF a (n + m) := by
  unfold stepsF
  by_cases h1 : a ≥ 128
  · simp only [if_pos h1]
    by_cases h2 : n < 256 - a
    · simp only [if_pos h2]
      have h3 : a + n ≥ 128 := by omega
      simp only [if_pos h3]
      by_cases h4 : m < 256 - (a + n)
      · have h5 : n + m < 256 - a := by omega
        simp only [if_pos h4, if_pos h5]; omega
      · have h5 : ¬ n + m < 256 - a := by omega
        simp only [if_neg h4, if_neg h5]; congr 1; omega
    · have h3 : ¬ (n - (256 - a)) % 128 ≥ 128 := by omega
      have h5 : ¬ n + m < 256 - a := by omega
      simp only [if_neg h2, if_neg h3, if_neg h5]; omega
  · have h3 : ¬ (a + n) % 128 ≥ 128 := by omega
    simp only [if_neg h1, if_neg h3]; omega
end Go.Proofs.Ythdacjnghnnmnaa.Lol
