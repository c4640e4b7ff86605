/- The greatest rank that may be, and whether one may, are the document's: plain numbers, no condition. -/
import Derived.Test.YthdacjnghnnmnaaPRankLimitsx2
set_option linter.unusedSimpArgs false
set_option linter.unusedVariables false
namespace Go.Proofs.Ythdacjnghnnmnaa.Pure
open Go.RowKit Go.Proofs.Ythdacjnghnnmnaa.PRankLimits Go.Proofs.YthdacjnghnnmnaaW.PrintWords Go.Proofs.YthdacjnghnnmnaaW.PrintLast Go.Proofs.YthdacjnghnnmnaaW.PrintMore


theorem RankLimits_valid1 (k : Nat) (hk : 4 ≤ k) (a : Int) : rank_Valid.f k [a] = some (decide (0 ≤ a ∧ a ≤ 65535)) := by
  obtain ⟨k, rfl⟩ : ∃ m, k = m + 4 := ⟨k - 4, by omega⟩
  simp only [rank_Valid.f, rank_Valid.l0, rd, wrap64]
  by_cases h1 : a < 0 <;> by_cases h2 : 65535 < a <;> simp [h1, h2] <;> omega

theorem RankLimits_valid2 (k : Nat) (hk : 4 ≤ k) (a b : Int) : rank_Valid.f k [a, b] = some (decide ((0 ≤ a ∧ a ≤ 65535) ∧ 0 ≤ b ∧ b ≤ 65535)) := by
  obtain ⟨k, rfl⟩ : ∃ m, k = m + 4 := ⟨k - 4, by omega⟩
  simp only [rank_Valid.f, rank_Valid.l0, rd, wrap64]
  by_cases h1 : a < 0 <;> by_cases h2 : 65535 < a <;> by_cases h3 : b < 0 <;> by_cases h4 : 65535 < b <;> simp [h1, h2, h3, h4] <;> omega

theorem RankLimits_valid3 (k : Nat) (hk : 4 ≤ k) (a b c : Int) : rank_Valid.f k [a, b, c] = some (decide ((0 ≤ a ∧ a ≤ 65535) ∧ (0 ≤ b ∧ b ≤ 65535) ∧ 0 ≤ c ∧ c ≤ 65535)) := by
  obtain ⟨k, rfl⟩ : ∃ m, k = m + 4 := ⟨k - 4, by omega⟩
  simp only [rank_Valid.f, rank_Valid.l0, rd, wrap64]
  by_cases h1 : a < 0 <;> by_cases h2 : 65535 < a <;> by_cases h3 : b < 0 <;> by_cases h4 : 65535 < b <;> by_cases h5 : c < 0 <;> by_cases h6 : 65535 < c <;> simp [h1, h2, h3, h4, h5, h6] <;> omega

theorem RankLimits_known2 (k : Nat) (hk : 8 ≤ k) : rivuletlaw12_known.f k = some true := at_rounds rivuletlaw12_known.mono hk (by decide +kernel)

theorem RankLimits_refv (a : Int) : rivuletref12_Valid.f a = some (decide (0 ≤ a ∧ a ≤ 65535)) := by
  unfold rivuletref12_Valid.f; by_cases h : a ≥ 0 <;> simp [h] <;> omega

theorem RankLimits_refadd (k : Nat) (hk : 3 ≤ k) (a n : Int) (h : 0 ≤ a ∧ a ≤ 65535) (hn : 0 ≤ n ∧ n ≤ 65535) : rivuletref12_Add.f k a [n] = some (mn (wrap64 (a + n)) 65535, 0) := by
  obtain ⟨k, rfl⟩ : ∃ m, k = m + 3 := ⟨k - 3, by omega⟩
  unfold rivuletref12_Add.f
  rw [RankLimits_refv]
  simp only [Option.bind_some, h, and_self, decide_true, if_true, rivuletref12_Add.l0, rd, wrap64, mn]
  have h1 : ¬ n < 0 := by omega
  by_cases h2 : n > 65535 - a
  · have h3 : ¬ (a + n) ≤ 65535 := by omega
    simp [h1]; split <;> split <;> simp <;> omega
  · simp [h1]; split <;> split <;> simp <;> omega

theorem RankLimits : rivuletlaw12_RankLimits.Pure := by
  intro n lo inc _ _ _
  refine ⟨25, ?_⟩
  unfold rivuletlaw12_RankLimits.f
  have hlim : rank_Limit.f 25 lo inc = some (if (0 ≤ lo ∧ lo ≤ 65535) ∧ 0 ≤ inc ∧ inc ≤ 65535 then (if inc = 0 then (0, 10) else (mn (wrap64 (lo + inc)) 65535, 0)) else (0, 1)) := by
    unfold rank_Limit.f
    rw [RankLimits_valid2 25 (by omega)]
    simp only [Option.bind_some, decide_eq_true_eq]
    split
    · split <;> rfl
    · rfl
  have hmay : rank_May.f 25 n lo inc = some (if (0 ≤ n ∧ n ≤ 65535) ∧ (0 ≤ lo ∧ lo ≤ 65535) ∧ 0 ≤ inc ∧ inc ≤ 65535 then (if n = 65535 then (true, 0) else if inc = 0 then (true, 0) else (decide (n ≤ mn (wrap64 (lo + inc)) 65535), 0)) else (false, 1)) := by
    unfold rank_May.f
    rw [RankLimits_valid3 25 (by omega), hlim]
    simp only [Option.bind_some, decide_eq_true_eq]
    by_cases h : (0 ≤ n ∧ n ≤ 65535) ∧ (0 ≤ lo ∧ lo ≤ 65535) ∧ 0 ≤ inc ∧ inc ≤ 65535
    · rw [if_pos h, if_pos h, if_pos h.2]
      by_cases h65 : n = 65535
      · rw [if_pos h65, if_pos h65]
      · rw [if_neg h65, if_neg h65]
        by_cases hz : inc = 0
        · simp [hz]
        · simp [hz]
    · rw [if_neg h, if_neg h]
  rw [hlim, hmay, RankLimits_refv, RankLimits_refv]
  simp only [Option.bind_some, decide_eq_true_eq]
  by_cases hlo : 0 ≤ lo ∧ lo ≤ 65535
  · rw [if_pos hlo]
    by_cases hinc : 0 ≤ inc ∧ inc ≤ 65535
    · have ha := RankLimits_refadd 24 (by omega) lo inc hlo hinc
      generalize mn (wrap64 (lo + inc)) 65535 = L at ha ⊢
      have hk := RankLimits_known2 22 (by omega)
      rw [if_pos ⟨hlo, hinc⟩]
      simp only [hinc, and_self, decide_true, Bool.not_true, rivuletlaw12_RankLimits.j0, Bool.false_eq_true, if_false, ha, Option.bind_some]
      by_cases hz : inc = 0
      · simp only [hz, if_true, rivuletlaw12_RankLimits.j1, Bool.false_eq_true, if_false, RankLimits_refv, Option.bind_some, decide_eq_true_eq, hlo, and_true, true_and, and_self]
        rw [RankLimits_known2 23 (by omega)]
        simp only [Option.bind_some, if_true]
        by_cases hn : 0 ≤ n ∧ n ≤ 65535
        · by_cases h65 : n = 65535 <;> simp [hn, h65]
        · simp [hn]
      · simp only [hz, if_false, if_true, rivuletlaw12_RankLimits.j1, bne_self_eq_false, Bool.false_eq_true, if_false, RankLimits_refv, Option.bind_some, decide_eq_true_eq, hlo, hinc, and_true, true_and, and_self]
        rw [RankLimits_known2 23 (by omega)]
        simp only [Option.bind_some, if_true]
        by_cases hn : 0 ≤ n ∧ n ≤ 65535
        · by_cases h65 : n = 65535 <;> simp [hn, h65]
        · simp [hn]
    · rw [if_neg (fun h => hinc h.2), if_neg (fun h => hinc h.2.2)]
      simp only [hinc, decide_false, Bool.not_false, rivuletlaw12_RankLimits.j0, if_true]
      rw [RankLimits_known2 24 (by omega)]
      rfl
  · rw [if_neg hlo, if_neg (fun h => hlo h.1), if_neg (fun h => hlo h.2.1)]
    simp only [rivuletlaw12_RankLimits.j0, if_true]
    rw [RankLimits_known2 24 (by omega)]
    rfl

end Go.Proofs.Ythdacjnghnnmnaa.Pure
