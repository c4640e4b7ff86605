/- The step of any rank, how two are, and whether one is behind a parent's, or what is wrong, are the document's: plain numbers, no condition. -/
import Derived.Test.YtanpnhponefbbaaPRankStepsx2
set_option linter.unusedSimpArgs false
set_option linter.unusedVariables false
namespace Go.Proofs.Ytanpnhponefbbaa.Pure
open Go.RowKit Go.Proofs.Ytanpnhponefbbaa.PRankSteps Go.Proofs.YtanpnhponefbbaaW.PrintWords Go.Proofs.YtanpnhponefbbaaW.PrintLast Go.Proofs.YtanpnhponefbbaaW.PrintMore

theorem RankSteps_valid1 (k : Nat) (hk : 4 ≤ k) (a : Int) : rank_Valid.f k [a] = some (decide (0 ≤ a ∧ a ≤ 65535)) := by
  obtain ⟨k, rfl⟩ : ∃ m, k = m + 4 := ⟨k - 4, by omega⟩
  simp only [rank_Valid.f, rank_Valid.l0, rd, wrap64]
  by_cases h1 : a < 0 <;> by_cases h2 : 65535 < a <;> simp [h1, h2] <;> omega

theorem RankSteps_valid2 (k : Nat) (hk : 4 ≤ k) (a b : Int) : rank_Valid.f k [a, b] = some (decide ((0 ≤ a ∧ a ≤ 65535) ∧ 0 ≤ b ∧ b ≤ 65535)) := by
  obtain ⟨k, rfl⟩ : ∃ m, k = m + 4 := ⟨k - 4, by omega⟩
  simp only [rank_Valid.f, rank_Valid.l0, rd, wrap64]
  by_cases h1 : a < 0 <;> by_cases h2 : 65535 < a <;> by_cases h3 : b < 0 <;> by_cases h4 : 65535 < b <;> simp [h1, h2, h3, h4] <;> omega

theorem RankSteps_known (k : Nat) (hk : 8 ≤ k) : rivuletlaw12_known.f k = some true := at_rounds rivuletlaw12_known.mono hk (by decide +kernel)

theorem RankSteps_refv (a : Int) : rivuletref12_Valid.f a = some (decide (0 ≤ a ∧ a ≤ 65535)) := by
  unfold rivuletref12_Valid.f; by_cases h : a ≥ 0 <;> simp [h] <;> omega

theorem RankSteps_least (a : Int) : rivuletref12_Least.f a = some (decide (1 ≤ a ∧ a ≤ 65535)) := by
  unfold rivuletref12_Least.f; by_cases h : a ≥ 1 <;> simp [h] <;> omega

theorem RankSteps_may1 (a l : Int) : rank_may.f 25 l [a] = some (decide ((1 ≤ l ∧ l ≤ 65535) ∧ 0 ≤ a ∧ a ≤ 65535)) := by
  unfold rank_may.f
  rw [RankSteps_valid1 25 (by omega), RankSteps_valid1 25 (by omega)]
  by_cases h : l > 0
  · by_cases h2 : l ≤ 65535
    · have : 0 ≤ l := by omega
      have h1 : 1 ≤ l := by omega
      simp [h, h2, this, h1]
    · simp [h, h2]
  · have : ¬ 1 ≤ l := by omega
    simp [h, this]

theorem RankSteps_may2 (a b l : Int) : rank_may.f 25 l [a, b] = some (decide ((1 ≤ l ∧ l ≤ 65535) ∧ (0 ≤ a ∧ a ≤ 65535) ∧ 0 ≤ b ∧ b ≤ 65535)) := by
  unfold rank_may.f
  rw [RankSteps_valid1 25 (by omega), RankSteps_valid2 25 (by omega)]
  by_cases h : l > 0
  · by_cases h2 : l ≤ 65535
    · have : 0 ≤ l := by omega
      have h1 : 1 ≤ l := by omega
      simp [h, h2, this, h1]
    · simp [h, h2]
  · have : ¬ 1 ≤ l := by omega
    simp [h, this]

theorem RankSteps_div (a l : Int) (ha : 0 ≤ a ∧ a ≤ 65535) (hl : 1 ≤ l ∧ l ≤ 65535) : wrap64 (Int.tdiv a l) = a / l ∧ wrap64 (Int.tdiv (wrap64 (a - (Int.tmod a l))) l) = a / l ∧ 0 ≤ a / l := by
  have h1 : Int.tdiv a l = a / l := by rw [Int.tdiv_eq_ediv_of_nonneg ha.1]
  have h2 : Int.tmod a l = a % l := Int.tmod_eq_emod_of_nonneg ha.1
  have h3 : 0 ≤ a / l := Int.ediv_nonneg ha.1 (by omega)
  have h4 : a / l ≤ a := Int.ediv_le_self l ha.1
  have h5 : 0 ≤ a % l := Int.emod_nonneg a (by omega)
  have h6 : l * (a / l) + a % l = a := Int.mul_ediv_add_emod a l
  have h7 : 0 ≤ l * (a / l) := Int.mul_nonneg (by omega) h3
  have h8 : wrap64 (a - a % l) = a - a % l := by unfold wrap64; omega
  have h9 : a - a % l = l * (a / l) := by omega
  have h10 : (l * (a / l)).tdiv l = a / l := Int.mul_tdiv_cancel_left _ (by omega)
  rw [h1, h2, h8, h9, h10]
  refine ⟨?_, ?_, h3⟩ <;> (unfold wrap64; omega)

theorem RankSteps : rivuletlaw12_RankSteps.Pure := by
  intro a b l _ _ _
  refine ⟨25, ?_⟩
  unfold rivuletlaw12_RankSteps.f rank_Behind.f rank_Step.f rank_Compare.f
  rw [RankSteps_may1, RankSteps_may2, RankSteps_least, RankSteps_refv]
  simp only [Option.bind_some, decide_eq_true_eq]
  by_cases hl : 1 ≤ l ∧ l ≤ 65535
  · have hl0 : ¬ l = 0 := by omega
    by_cases ha : 0 ≤ a ∧ a ≤ 65535
    · obtain ⟨d1, d2, d3⟩ := RankSteps_div a l ha hl
      simp only [hl, ha, hl0, and_self, if_true, if_false, true_and, decide_true, Bool.not_true, Option.bind_some, d1, rivuletlaw12_RankSteps.j0, Bool.false_eq_true, rivuletref12_Step.f, d2, RankSteps_valid2 24 (by omega), RankSteps_refv, bne_self_eq_false, rivuletlaw12_RankSteps.j1]
      by_cases hb : 0 ≤ b ∧ b ≤ 65535
      · obtain ⟨e1, e2, e3⟩ := RankSteps_div b l hb hl
        simp only [hb, and_self, if_true, e1, e2, cmp_Compare_int.f, cmp_isNaN_int.f, Option.bind_some, bne_self_eq_false, Bool.false_eq_true, if_false, decide_true, RankSteps_known 23 (by omega)]
        by_cases h1 : a / l < b / l
        · have h2 : ¬ a / l > b / l := by omega
          simp [h1, h2]
        · by_cases h2 : a / l > b / l
          · simp [h1, h2]
          · simp [h1, h2]
      · simp [hb, RankSteps_known 23 (by omega)]
    · simp only [hl, ha, and_self, if_true, if_false, true_and, false_and, and_false, decide_false, Bool.not_false, Option.bind_some, rivuletlaw12_RankSteps.j0, RankSteps_known 24 (by omega)]
      simp
  · simp only [hl, if_false, false_and, Option.bind_some, rivuletlaw12_RankSteps.j0, if_true, RankSteps_known 24 (by omega)]
    simp

end Go.Proofs.Ytanpnhponefbbaa.Pure
