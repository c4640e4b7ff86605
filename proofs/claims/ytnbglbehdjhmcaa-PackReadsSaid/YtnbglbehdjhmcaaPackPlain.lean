/- What the document's Put, Size and Digits answer: plain numbers and lists. -/
import Derived.Test.YtnbglbehdjhmcaaPackPut
import Derived.Test.YtnbglbehdjhmcaaPPackPutsx2
set_option linter.unusedVariables false
set_option linter.unusedSimpArgs false
namespace Go.Proofs.Ytnbglbehdjhmcaa.Pk
open Go.RowKit Go.Proofs.YtnbglbehdjhmcaaW.PrintWords Go.Proofs.Ytnbglbehdjhmcaa.PPackPuts
theorem size_f (k : Int) : rivuletref02_Size.f k = some (decide (0 < spanF k)) := by
  unfold rivuletref02_Size.f spanF
  by_cases h1 : k = 1
  · rw [if_pos h1, if_pos h1]; rfl
  · rw [if_neg h1, if_neg h1]
    by_cases h2 : k = 2
    · rw [if_pos h2, if_pos h2]; rfl
    · rw [if_neg h2, if_neg h2]
      by_cases h4 : k = 4
      · rw [if_pos h4, h4]; rfl
      · rw [if_neg h4]; simp [h4]
theorem dig_step (K : Nat) (n x7 : Int) (x6 : List Int) (h0 : 0 ≤ x7) (h1 : x7 < x6.length) (hx : x7 < 100) (hn : 0 ≤ n) (hn2 : n ≤ 9223372036854775807) :
    rivuletref02_Digits.l0 (K + 1) n x6 x7 = rivuletref02_Digits.l0 K (n / 256) (x6.set x7.toNat (n % 256)) (x7 - 1) := by
  have e1 : Int.tdiv n 256 = n / 256 := Int.tdiv_eq_ediv_of_nonneg hn
  have e2 : Int.tmod n 256 = n % 256 := Int.tmod_eq_emod_of_nonneg hn
  have e3 : wrap64 (n / 256) = n / 256 := by unfold wrap64; omega
  have e4 : wrap64 (x7 - 1) = x7 - 1 := by unfold wrap64; omega
  have e5 : n % 256 % 256 = n % 256 := by omega
  simp only [rivuletref02_Digits.l0]
  rw [if_pos h0, if_pos h0, if_pos h1, e1, e2, e3, e4, e5]
theorem dig_stop (K : Nat) (n : Int) (x6 : List Int) : rivuletref02_Digits.l0 (K + 1) n x6 (-1) = some (x6, n == 0) := by
  simp only [rivuletref02_Digits.l0]
  rw [if_neg (by omega)]
theorem digits_f (k n : Int) (hk : k = 1 ∨ k = 2 ∨ k = 4) (K : Nat) (hK : 6 ≤ K) (hn2 : n ≤ 9223372036854775807) : ∃ D, rivuletref02_Digits.f K k n = some (D, decide (0 ≤ n ∧ n < spanF k)) ∧ (0 ≤ n ∧ n < spanF k → D = digF k n) ∧ D.length ≤ 4 := by
  obtain ⟨K, rfl⟩ : ∃ m, K = m + 5 := ⟨K - 5, by omega⟩
  by_cases hn : n < 0
  · refine ⟨[], ?_, fun h => by omega, by simp⟩
    unfold rivuletref02_Digits.f
    rw [if_pos (by omega), if_pos (by omega), if_pos hn]
    have : ¬ (0 ≤ n ∧ n < spanF k) := by omega
    simp [this]
  · have h1 : 0 ≤ n / 256 ∧ n / 256 ≤ 9223372036854775807 := by omega
    have h2 : 0 ≤ n / 256 / 256 ∧ n / 256 / 256 ≤ 9223372036854775807 := by omega
    have h3 : 0 ≤ n / 256 / 256 / 256 ∧ n / 256 / 256 / 256 ≤ 9223372036854775807 := by omega
    rcases hk with rfl | rfl | rfl
    · refine ⟨[n % 256], ?_, fun h => by unfold digF; simp, by simp⟩
      unfold rivuletref02_Digits.f
      rw [if_pos (by omega), if_pos (by omega), if_neg hn, show wrap64 (1 - 1) = 0 by unfold wrap64; omega, show ((1 : Int).toNat) = 1 by decide, show List.replicate 1 (0 : Int) = [0] by decide]
      rw [dig_step _ n 0 [0] (by decide) (by decide) (by decide) (by omega) hn2, show (0 : Int) - 1 = -1 by decide, dig_stop]
      have e : spanF 1 = 256 := by decide
      rw [e]
      congr 1
      rw [Prod.mk.injEq]
      exact ⟨rfl, by rw [Bool.eq_iff_iff]; simp; omega⟩
    · refine ⟨[n / 256 % 256, n % 256], ?_, fun h => by unfold digF; simp, by simp⟩
      unfold rivuletref02_Digits.f
      rw [if_pos (by omega), if_pos (by omega), if_neg hn, show wrap64 (2 - 1) = 1 by unfold wrap64; omega, show ((2 : Int).toNat) = 2 by decide, show List.replicate 2 (0 : Int) = [0, 0] by decide]
      rw [dig_step _ n 1 [0, 0] (by decide) (by decide) (by decide) (by omega) hn2]
      show rivuletref02_Digits.l0 _ (n / 256) [0, n % 256] 0 = _
      rw [dig_step _ (n / 256) 0 [0, n % 256] (by decide) (by simp) (by decide) h1.1 h1.2, show (0 : Int) - 1 = -1 by decide, dig_stop]
      have e : spanF 2 = 65536 := by decide
      rw [e]
      congr 1
      rw [Prod.mk.injEq]
      exact ⟨rfl, by rw [Bool.eq_iff_iff]; simp; omega⟩
    · refine ⟨[n / 256 / 256 / 256 % 256, n / 256 / 256 % 256, n / 256 % 256, n % 256], ?_, fun h => by unfold digF; simp; omega, by simp⟩
      unfold rivuletref02_Digits.f
      rw [if_pos (by omega), if_pos (by omega), if_neg hn, show wrap64 (4 - 1) = 3 by unfold wrap64; omega, show ((4 : Int).toNat) = 4 by decide, show List.replicate 4 (0 : Int) = [0, 0, 0, 0] by decide]
      rw [dig_step _ n 3 [0, 0, 0, 0] (by decide) (by decide) (by decide) (by omega) hn2]
      show rivuletref02_Digits.l0 _ (n / 256) [0, 0, 0, n % 256] 2 = _
      rw [dig_step _ (n / 256) 2 [0, 0, 0, n % 256] (by decide) (by simp) (by decide) h1.1 h1.2]
      show rivuletref02_Digits.l0 _ (n / 256 / 256) [0, 0, n / 256 % 256, n % 256] 1 = _
      rw [dig_step _ (n / 256 / 256) 1 [0, 0, n / 256 % 256, n % 256] (by decide) (by simp) (by decide) h2.1 h2.2]
      show rivuletref02_Digits.l0 _ (n / 256 / 256 / 256) [0, n / 256 / 256 % 256, n / 256 % 256, n % 256] 0 = _
      rw [dig_step _ (n / 256 / 256 / 256) 0 [0, n / 256 / 256 % 256, n / 256 % 256, n % 256] (by decide) (by simp) (by decide) h3.1 h3.2, show (0 : Int) - 1 = -1 by decide, dig_stop]
      have e : spanF 4 = 4294967296 := by decide
      rw [e]
      congr 1
      rw [Prod.mk.injEq]
      exact ⟨rfl, by rw [Bool.eq_iff_iff]; simp; omega⟩
def putR (b : List Int) (k : Int) (l : List Int) : List Int × Int := if fitsF k l = true then (if (b ++ putF k l).length ≤ 1280 then (b ++ putF k l, 0) else ([], 2)) else ([], 1)
theorem fits_take (k : Int) (l : List Int) (j : Nat) (h : j < l.length) : fitsF k (l.take (j + 1)) = (fitsF k (l.take j) && decide (0 ≤ rd l j ∧ rd l j < spanF k)) := by
  unfold fitsF
  rw [List.take_succ_eq_append_getElem h, List.all_append]
  simp [rd, h, Bool.and_assoc]
theorem fits_false (k : Int) (l : List Int) (j : Nat) (h : fitsF k (l.take j) = false) : fitsF k l = false := by
  have e : fitsF k l = fitsF k (l.take j ++ l.drop j) := by rw [List.take_append_drop]
  rw [e, fits_append, h]; rfl
theorem put_l0 (k : Int) (hk : k = 1 ∨ k = 2 ∨ k = 4) (b l : List Int) (hl : l.length ≤ 100000) (hb : b.length ≤ 100000) (hw : ∀ x ∈ l, x ≤ 9223372036854775807) : ∀ (d K i : Nat), l.length ≤ i + d → d + 10 < K → i ≤ l.length → fitsF k (l.take i) = true → rivuletref02_Put.l0 K k l (b ++ putF k (l.take i)) i = some (putR b k l) := by
  have fin : ∀ (K i : Nat), l.length ≤ i → 10 < K → fitsF k (l.take i) = true → rivuletref02_Put.l0 K k l (b ++ putF k (l.take i)) i = some (putR b k l) := by
    intro K i h1 h2 h3
    obtain ⟨K, rfl⟩ : ∃ m, K = m + 1 := ⟨K - 1, by omega⟩
    simp only [rivuletref02_Put.l0]
    rw [if_neg (by omega), List.take_of_length_le h1]
    rw [List.take_of_length_le h1] at h3
    unfold putR
    rw [if_pos h3]
    by_cases h4 : (b ++ putF k l).length ≤ 1280
    · rw [if_pos h4, if_neg (by omega)]
    · rw [if_neg h4, if_pos (by omega)]
  intro d
  induction d with
  | zero => intro K i h1 h2 h3 h4; exact fin K i (by omega) (by omega) h4
  | succ d ih =>
    intro K i h1 h2 h3 h4
    by_cases hlt : i < l.length
    · obtain ⟨K, rfl⟩ : ∃ m, K = m + 1 := ⟨K - 1, by omega⟩
      have hm : rd l i ∈ l := by unfold rd; simp [hlt]
      obtain ⟨D, hD, hD2, hD3⟩ := digits_f k (rd l i) hk K (by omega) (hw _ hm)
      simp only [rivuletref02_Put.l0]
      rw [if_pos (by omega), if_pos (by omega), hD]
      simp only [Option.bind_some]
      have i1 : l.length ≤ i + 1 + d := by clear hk; omega
      have i2 : d + 10 < K := by clear hk; omega
      have i3 : i + 1 ≤ l.length := by clear hk; omega
      by_cases hx : 0 ≤ rd l i ∧ rd l i < spanF k
      · have hp := putF_len k (l.take i)
        have hlt2 : (l.take i).length ≤ l.length := by simp; omega
        have ew : wrap64 ((i : Int) + 1) = ((i + 1 : Nat) : Int) := by unfold wrap64; omega
        have e1 : (decide (0 ≤ rd l i ∧ rd l i < spanF k)) = true := by simpa using hx
        have h6 : (b ++ putF k (l.take i)).length + D.length < 140737488355328 := by rw [List.length_append]; omega
        have e2 : b ++ putF k (l.take i) ++ D = b ++ putF k (l.take (i + 1)) := by rw [hD2 hx, List.append_assoc, ← put_take k l i hlt]
        have h7 : fitsF k (l.take (i + 1)) = true := by rw [fits_take k l i hlt, h4, e1]; rfl
        rw [if_pos e1, if_pos h6, ew, e2]
        exact ih K (i + 1) i1 i2 i3 h7
      · rw [if_neg (by simpa using hx)]
        have hf : fitsF k l = false := fits_false k l (i + 1) (by rw [fits_take k l i hlt, h4]; simpa using hx)
        unfold putR
        rw [hf]; rfl
    · exact fin K i (by omega) (by omega) h4
theorem put_f (K : Nat) (k : Int) (b l : List Int) (hK : l.length + 20 < K) (hl : l.length ≤ 100000) (hb : b.length ≤ 100000) (hw : ∀ x ∈ l, x ≤ 9223372036854775807) : rivuletref02_Put.f K b k l = some (putR b k l) := by
  unfold rivuletref02_Put.f
  rw [size_f]
  simp only [Option.bind_some]
  by_cases h0 : 0 < spanF k
  · have hk : k = 1 ∨ k = 2 ∨ k = 4 := fits_size k [] (by unfold fitsF; simpa using h0)
    have e : b ++ putF k (l.take 0) = [] ++ b := by simp [putF]
    have := put_l0 k hk b l hl hb hw l.length K 0 (by omega) (by omega) (by omega) (by unfold fitsF; simpa using h0)
    rw [e] at this
    rw [if_pos (by simpa using h0), if_pos (by simp; omega)]
    exact this
  · rw [if_neg (by simpa using h0)]
    have hf : fitsF k l = false := by unfold fitsF; simp; omega
    unfold putR
    rw [hf]; rfl
/-- What was put is read as it was. -/
theorem join_dig (k n : Int) (hk : k = 1 ∨ k = 2 ∨ k = 4) (h : 0 ≤ n ∧ n < spanF k) : joinF (digF k n) = n ∧ (digF k n).length = k := by
  rcases hk with rfl | rfl | rfl
  · have e : spanF 1 = 256 := by decide
    rw [e] at h
    exact ⟨by show (0 * 256 + n % 256) = n; omega, rfl⟩
  · have e : spanF 2 = 65536 := by decide
    rw [e] at h
    exact ⟨by show ((0 * 256 + n / 256 % 256) * 256 + n % 256) = n; omega, rfl⟩
  · have e : spanF 4 = 4294967296 := by decide
    rw [e] at h
    exact ⟨by show ((((0 * 256 + n / 16777216 % 256) * 256 + n / 65536 % 256) * 256 + n / 256 % 256) * 256 + n % 256) = n; omega, rfl⟩
theorem put_length (k : Nat) (hk : (k : Int) = 1 ∨ (k : Int) = 2 ∨ (k : Int) = 4) (l : List Int) : (putF k l).length = l.length * k := by
  induction l with
  | nil => simp [putF]
  | cons x l ih =>
    have e : putF k (x :: l) = digF k x ++ putF k l := rfl
    have hd : (digF (k : Int) x).length = k := by unfold digF; rcases hk with h | h | h <;> simp [h] <;> omega
    rw [e, List.length_append, ih, hd, List.length_cons, Nat.add_mul]; omega
theorem many_put (k : Nat) (hk : (k : Int) = 1 ∨ (k : Int) = 2 ∨ (k : Int) = 4) (b l : List Int) (hf : fitsF k l = true) : manyF (b ++ putF k l) b.length k l.length = l := by
  apply List.ext_getElem
  · rw [many_len]
  · intro i h1 h2
    have hr := fits_rd k l i hf h2
    have hrd : rd l i = l[i] := by simp [rd, h2]
    rw [hrd] at hr
    have hj := join_dig k l[i] hk hr
    have e : putF k l = putF k (l.take i) ++ (digF k l[i] ++ putF k (l.drop (i + 1))) := by
      have : l = l.take i ++ (l[i] :: l.drop (i + 1)) := by rw [← List.drop_eq_getElem_cons, List.take_append_drop]
      conv => lhs; rw [this]
      rw [putF_append]; rfl
    have hlen : (putF k (l.take i)).length = i * k := by rw [put_length k hk, List.length_take, Nat.min_eq_left (by omega)]
    simp only [manyF, List.getElem_map, List.getElem_range]
    rw [e, ← List.append_assoc, List.drop_append_of_le_length (by rw [List.length_append]; omega)]
    rw [List.drop_of_length_le (by rw [List.length_append]; omega), List.nil_append, List.take_append_of_le_length (by have := hj.2; omega), List.take_of_length_le (by have := hj.2; omega)]
    exact hj.1
end Go.Proofs.Ytnbglbehdjhmcaa.Pk
