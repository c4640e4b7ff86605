/- Whatever is added to any rank is what the document says: plain numbers and lists, no condition. -/
import Derived.Test.YthdacjnghnnmnaaPRankAddsx2
set_option linter.unusedSimpArgs false
set_option linter.unusedVariables false
namespace Go.Proofs.Ythdacjnghnnmnaa.Pure
open Go.RowKit Go.Proofs.Ythdacjnghnnmnaa.PRankAdds Go.Proofs.YthdacjnghnnmnaaW.PrintWords Go.Proofs.YthdacjnghnnmnaaW.PrintLast Go.Proofs.YthdacjnghnnmnaaW.PrintMore


theorem RankAdds_valid1 (k : Nat) (hk : 4 ≤ k) (a : Int) : rank_Valid.f k [a] = some (decide (0 ≤ a ∧ a ≤ 65535)) := by
  obtain ⟨k, rfl⟩ : ∃ m, k = m + 4 := ⟨k - 4, by omega⟩
  simp only [rank_Valid.f, rank_Valid.l0, rd, wrap64]
  by_cases h1 : a < 0 <;> by_cases h2 : 65535 < a <;> simp [h1, h2] <;> omega

theorem RankAdds_valid2 (k : Nat) (hk : 4 ≤ k) (a b : Int) : rank_Valid.f k [a, b] = some (decide ((0 ≤ a ∧ a ≤ 65535) ∧ 0 ≤ b ∧ b ≤ 65535)) := by
  obtain ⟨k, rfl⟩ : ∃ m, k = m + 4 := ⟨k - 4, by omega⟩
  simp only [rank_Valid.f, rank_Valid.l0, rd, wrap64]
  by_cases h1 : a < 0 <;> by_cases h2 : 65535 < a <;> by_cases h3 : b < 0 <;> by_cases h4 : 65535 < b <;> simp [h1, h2, h3, h4] <;> omega

theorem RankAdds_valid3 (k : Nat) (hk : 4 ≤ k) (a b c : Int) : rank_Valid.f k [a, b, c] = some (decide ((0 ≤ a ∧ a ≤ 65535) ∧ (0 ≤ b ∧ b ≤ 65535) ∧ 0 ≤ c ∧ c ≤ 65535)) := by
  obtain ⟨k, rfl⟩ : ∃ m, k = m + 4 := ⟨k - 4, by omega⟩
  simp only [rank_Valid.f, rank_Valid.l0, rd, wrap64]
  by_cases h1 : a < 0 <;> by_cases h2 : 65535 < a <;> by_cases h3 : b < 0 <;> by_cases h4 : 65535 < b <;> by_cases h5 : c < 0 <;> by_cases h6 : 65535 < c <;> simp [h1, h2, h3, h4, h5, h6] <;> omega

theorem RankAdds_known : rivuletlaw12_known.f 25 = some true := by decide +kernel

theorem RankAdds_add_both (l : List Int) (hl : l.length ≤ 20) : ∀ (d k : Nat) (i x : Int), 0 ≤ i → i ≤ l.length → (l.length : Int) - i = d → d < k → 0 ≤ x → x ≤ 65535 →
    ∃ r e, rank_Add.l0 k x l (l.length : Int) i = some (r, e) ∧ rivuletref12_Add.l0 k l (65535 - x) i = some (r, e) ∧ (e = 0 → x ≤ r ∧ r ≤ 65535) := by
  intro d
  induction d with
  | zero =>
    intro k i x h0 h1 hd hk hx0 hx1
    obtain ⟨k, rfl⟩ : ∃ m, k = m + 1 := ⟨k - 1, by omega⟩
    refine ⟨x, 0, ?_, ?_, fun _ => ⟨by omega, by omega⟩⟩
    · simp only [rank_Add.l0]; rw [if_neg (by omega)]
    · simp only [rivuletref12_Add.l0]; rw [if_neg (by omega)]
      have : wrap64 (65535 - (65535 - x)) = x := by unfold wrap64; omega
      rw [this]
  | succ d ih =>
    intro k i x h0 h1 hd hk hx0 hx1
    obtain ⟨k, rfl⟩ : ∃ m, k = m + 1 := ⟨k - 1, by omega⟩
    have hlt : i < (l.length : Int) := by omega
    have hw : wrap64 (i + 1) = i + 1 := by unfold wrap64; omega
    generalize hy : rd l i = y
    by_cases hn : y < 0
    · refine ⟨0, 1, ?_, ?_, fun h => by omega⟩
      · simp only [rank_Add.l0]; rw [if_pos hlt, if_pos h0, if_pos hlt, hy, if_pos hn]
      · simp only [rivuletref12_Add.l0]; rw [if_pos hlt, if_pos h0, hy, if_pos hn]
    · by_cases hg : y > 65535 - x
      · obtain ⟨r, e, h2, h3, h4⟩ := ih k (i + 1) 65535 (by omega) (by omega) (by omega) (by omega) (by omega) (by omega)
        refine ⟨r, e, ?_, ?_, fun h => by have := h4 h; omega⟩
        · simp only [rank_Add.l0]; rw [if_pos hlt, if_pos h0, if_pos hlt, hy, if_neg hn, hw]
          have : mn (wrap64 (x + mn y 65535)) 65535 = 65535 := by unfold mn wrap64; repeat' split <;> omega
          rw [this]; exact h2
        · simp only [rivuletref12_Add.l0]; rw [if_pos hlt, if_pos h0, hy, if_neg hn, if_pos hg, hw]; exact h3
      · obtain ⟨r, e, h2, h3, h4⟩ := ih k (i + 1) (x + y) (by omega) (by omega) (by omega) (by omega) (by omega) (by omega)
        refine ⟨r, e, ?_, ?_, fun h => by have := h4 h; omega⟩
        · simp only [rank_Add.l0]; rw [if_pos hlt, if_pos h0, if_pos hlt, hy, if_neg hn, hw]
          have : mn (wrap64 (x + mn y 65535)) 65535 = x + y := by unfold mn wrap64; repeat' split <;> omega
          rw [this]; exact h2
        · simp only [rivuletref12_Add.l0]; rw [if_pos hlt, if_pos h0, hy, if_neg hn, if_neg hg, hw]
          have : wrap64 (65535 - x - y) = 65535 - (x + y) := by unfold wrap64; omega
          rw [this]; exact h3

theorem RankAdds_ref_valid (a : Int) : rivuletref12_Valid.f a = some (decide (0 ≤ a ∧ a ≤ 65535)) := by
  unfold rivuletref12_Valid.f; by_cases h : a ≥ 0 <;> simp [h] <;> omega

theorem RankAdds_add_f (a : Int) (l : List Int) (hl : l.length ≤ 20) : ∃ r e, rank_Add.f 25 a l = some (r, e) ∧ rivuletref12_Add.f 25 a l = some (r, e) ∧ (e = 0 → a ≤ r ∧ 0 ≤ r ∧ r ≤ 65535) := by
  unfold rank_Add.f rivuletref12_Add.f
  rw [RankAdds_valid1 25 (by omega), RankAdds_ref_valid]
  simp only [Option.bind_some]
  by_cases h : 0 ≤ a ∧ a ≤ 65535
  · simp only [h, decide_true, if_true, and_self]
    have hw : wrap64 (65535 - a) = 65535 - a := by unfold wrap64; omega
    rw [hw]
    obtain ⟨r, e, h1, h2, h3⟩ := RankAdds_add_both l hl l.length 25 0 a (by omega) (by omega) (by omega) (by omega) h.1 h.2
    exact ⟨r, e, h1, h2, fun he => by have := h3 he; omega⟩
  · simp only [h, decide_false, if_false, Bool.false_eq_true]
    exact ⟨0, 1, rfl, rfl, fun he => by omega⟩

theorem RankAdds : rivuletlaw12_RankAdds.Pure := by
  intro a l _ _ _ _
  refine ⟨25, ?_⟩
  unfold rivuletlaw12_RankAdds.f
  have h0 : 0 ≤ mn (l.length : Int) 20 := by unfold mn; split <;> omega
  have h1 : mn (l.length : Int) 20 ≤ l.length := by unfold mn; split <;> omega
  have h2 : mn (l.length : Int) 20 ≤ 20 := by unfold mn; split <;> omega
  rw [if_pos h0, if_pos h1]
  have hl : (l.take (mn (l.length : Int) 20).toNat).length ≤ 20 := by rw [List.length_take]; omega
  obtain ⟨r, e, ha, hb, hr⟩ := RankAdds_add_f a _ hl
  rw [ha, hb, RankAdds_known]
  simp only [Option.bind_some, if_true, RankAdds_valid1 25 (by omega)]
  by_cases he : e = 0
  · have := hr he
    simp [he, this]
  · simp [he]

end Go.Proofs.Ythdacjnghnnmnaa.Pure
