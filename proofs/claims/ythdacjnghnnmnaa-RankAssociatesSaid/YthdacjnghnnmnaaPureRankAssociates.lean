/- Numbers that are added to a rank one behind the other, at once, or in another order, come to the same: plain numbers, no condition. -/
import Derived.Test.YthdacjnghnnmnaaPRankAssociatesx2
set_option linter.unusedSimpArgs false
set_option linter.unusedVariables false
namespace Go.Proofs.Ythdacjnghnnmnaa.Pure
open Go.RowKit Go.Proofs.Ythdacjnghnnmnaa.PRankAssociates Go.Proofs.YthdacjnghnnmnaaW.PrintWords Go.Proofs.YthdacjnghnnmnaaW.PrintLast Go.Proofs.YthdacjnghnnmnaaW.PrintMore


theorem RankAssociates_valid1 (k : Nat) (hk : 4 ≤ k) (a : Int) : rank_Valid.f k [a] = some (decide (0 ≤ a ∧ a ≤ 65535)) := by
  obtain ⟨k, rfl⟩ : ∃ m, k = m + 4 := ⟨k - 4, by omega⟩
  simp only [rank_Valid.f, rank_Valid.l0, rd, wrap64]
  by_cases h1 : a < 0 <;> by_cases h2 : 65535 < a <;> simp [h1, h2] <;> omega

theorem RankAssociates_valid2 (k : Nat) (hk : 4 ≤ k) (a b : Int) : rank_Valid.f k [a, b] = some (decide ((0 ≤ a ∧ a ≤ 65535) ∧ 0 ≤ b ∧ b ≤ 65535)) := by
  obtain ⟨k, rfl⟩ : ∃ m, k = m + 4 := ⟨k - 4, by omega⟩
  simp only [rank_Valid.f, rank_Valid.l0, rd, wrap64]
  by_cases h1 : a < 0 <;> by_cases h2 : 65535 < a <;> by_cases h3 : b < 0 <;> by_cases h4 : 65535 < b <;> simp [h1, h2, h3, h4] <;> omega

theorem RankAssociates_valid3 (k : Nat) (hk : 4 ≤ k) (a b c : Int) : rank_Valid.f k [a, b, c] = some (decide ((0 ≤ a ∧ a ≤ 65535) ∧ (0 ≤ b ∧ b ≤ 65535) ∧ 0 ≤ c ∧ c ≤ 65535)) := by
  obtain ⟨k, rfl⟩ : ∃ m, k = m + 4 := ⟨k - 4, by omega⟩
  simp only [rank_Valid.f, rank_Valid.l0, rd, wrap64]
  by_cases h1 : a < 0 <;> by_cases h2 : 65535 < a <;> by_cases h3 : b < 0 <;> by_cases h4 : 65535 < b <;> by_cases h5 : c < 0 <;> by_cases h6 : 65535 < c <;> simp [h1, h2, h3, h4, h5, h6] <;> omega

theorem RankAssociates_known2 (k : Nat) (hk : 8 ≤ k) : rivuletlaw12_known.f k = some true := at_rounds rivuletlaw12_known.mono hk (by decide +kernel)

theorem RankAssociates_add1 (k : Nat) (hk : 4 ≤ k) (a n : Int) : rank_Add.f k a [n] = some (if (0 ≤ a ∧ a ≤ 65535) ∧ 0 ≤ n then (mn (a + mn n 65535) 65535, 0) else (0, 1)) := by
  unfold rank_Add.f
  rw [RankAssociates_valid1 k hk]
  obtain ⟨k, rfl⟩ : ∃ m, k = m + 4 := ⟨k - 4, by omega⟩
  simp only [Option.bind_some, decide_eq_true_eq, rank_Add.l0, rd]
  by_cases h : 0 ≤ a ∧ a ≤ 65535
  · by_cases hn : n < 0
    · have : ¬ 0 ≤ n := by omega
      simp [h, hn, this]
    · have h2 : 0 ≤ n := by omega
      have hw : wrap64 (a + mn n 65535) = a + mn n 65535 := by unfold wrap64 mn; split <;> omega
      simp [h, hn, h2, hw, wrap64]
  · simp [h]

theorem RankAssociates_add2 (k : Nat) (hk : 4 ≤ k) (a n m : Int) : rank_Add.f k a [n, m] = some (if (0 ≤ a ∧ a ≤ 65535) ∧ 0 ≤ n ∧ 0 ≤ m then (mn (mn (a + mn n 65535) 65535 + mn m 65535) 65535, 0) else (0, 1)) := by
  unfold rank_Add.f
  rw [RankAssociates_valid1 k hk]
  obtain ⟨k, rfl⟩ : ∃ m, k = m + 4 := ⟨k - 4, by omega⟩
  simp only [Option.bind_some, decide_eq_true_eq, rank_Add.l0, rd]
  by_cases h : 0 ≤ a ∧ a ≤ 65535
  · by_cases hn : n < 0
    · have : ¬ 0 ≤ n := by omega
      simp [h, hn, this]
    · have h2 : 0 ≤ n := by omega
      have hw : wrap64 (a + mn n 65535) = a + mn n 65535 := by unfold wrap64 mn; split <;> omega
      by_cases hm : m < 0
      · have h3 : ¬ 0 ≤ m := by omega
        simp [h, hn, h2, hm, h3, wrap64]
      · have h3 : 0 ≤ m := by omega
        have hw2 : wrap64 (mn (a + mn n 65535) 65535 + mn m 65535) = mn (a + mn n 65535) 65535 + mn m 65535 := by unfold wrap64 mn; repeat' split <;> omega
        have hi : wrap64 (0 + 1) = 1 := by simp [wrap64]
        have hi2 : wrap64 1 = 1 := by simp [wrap64]
        have hi3 : wrap64 (1 + 1) = 2 := by simp [wrap64]
        have hi4 : wrap64 2 = 2 := by simp [wrap64]
        simp [h, hn, h2, hw, hm, h3, hw2, hi, hi2, hi3, hi4]
  · simp [h]

theorem RankAssociates : rivuletlaw12_RankAssociates.Pure := by
  intro a n m _ _ _
  refine ⟨25, ?_⟩
  unfold rivuletlaw12_RankAssociates.f
  simp only [RankAssociates_add1 25 (by omega), RankAssociates_add2 25 (by omega), Option.bind_some, rivuletlaw12_RankAssociates.j0, RankAssociates_known2 24 (by omega)]
  by_cases ha : 0 ≤ a ∧ a ≤ 65535
  · by_cases hn : 0 ≤ n
    · by_cases hm : 0 ≤ m
      · have hx : (0 ≤ mn (a + mn n 65535) 65535 ∧ mn (a + mn n 65535) 65535 ≤ 65535) := by unfold mn; repeat' split <;> omega
        have h1 : mn (mn (a + mn n 65535) 65535 + mn m 65535) 65535 = mn (mn (a + mn m 65535) 65535 + mn n 65535) 65535 := by unfold mn; repeat' split <;> omega
        simp [ha, hn, hm, hx, h1]
      · simp [ha, hn, hm]
    · simp [ha, hn]
  · simp [ha]

end Go.Proofs.Ythdacjnghnnmnaa.Pure
