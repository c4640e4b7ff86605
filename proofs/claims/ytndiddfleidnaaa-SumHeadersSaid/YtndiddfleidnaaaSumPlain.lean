/- The document's sum of a text is the one that is folded byte by byte: plain numbers and lists. -/
import Derived.Test.YtndiddfleidnaaaSumOf
set_option maxRecDepth 100000
set_option linter.unusedVariables false
set_option linter.unusedSimpArgs false
namespace Go.Proofs.Ytndiddfleidnaaa.Sum
open Go.RowKit Go.Proofs.YtndiddfleidnaaaW.PrintWords Go.Proofs.Ytndiddfleidnaaa.PSumHeaders
/-- A sum, folded. -/
def F (n : Int) : Int := if n = 0 then 0 else (n - 1) % 65535 + 1
theorem F_add (n x : Int) (hn : 0 ≤ n) (hx : 0 ≤ x ∧ x ≤ 65535) : foldF (F n + x) = F (n + x) := by
  unfold foldF F
  by_cases h : n = 0
  · rw [if_pos h]
    by_cases h2 : x = 0
    · rw [if_neg (by omega), if_pos (by omega)]; omega
    · rw [if_neg (by omega), if_neg (by omega)]; omega
  · rw [if_neg h, if_neg (show ¬ n + x = 0 by omega)]
    split <;> omega
theorem F_range (n : Int) (hn : 0 ≤ n) : 0 ≤ F n ∧ F n ≤ 65535 := by unfold F; split <;> omega
/-- All added, not folded. -/
def tot (p : Int) : List Int → Int
  | [] => 0
  | x :: l => (if p % 2 = 0 then x * 256 else x) + tot (p + 1) l
theorem tot_nonneg (l : List Int) : ∀ p, (∀ x ∈ l, 0 ≤ x ∧ x ≤ 255) → 0 ≤ tot p l ∧ tot p l ≤ 65280 * l.length := by
  induction l with
  | nil => intro p h; simp [tot]
  | cons a l ih =>
    intro p h
    have h1 := h a (by simp)
    have h2 := ih (p + 1) (fun x hx => h x (by simp [hx]))
    simp only [tot, List.length_cons]
    split <;> (constructor <;> omega)
theorem addF_tot (l : List Int) : ∀ (n c : Int), 0 ≤ n → (∀ x ∈ l, 0 ≤ x ∧ x ≤ 255) → addF (F n, c) l = (F (n + tot c l), c + l.length) := by
  induction l with
  | nil => intro n c hn h; simp [addF, tot]
  | cons a l ih =>
    intro n c hn h
    have h1 := h a (by simp)
    have hx : 0 ≤ (if c % 2 = 0 then a * 256 else a) ∧ (if c % 2 = 0 then a * 256 else a) ≤ 65535 := by split <;> omega
    have e : addF (F n, c) (a :: l) = addF (F (n + if c % 2 = 0 then a * 256 else a), c + 1) l := by
      rw [← F_add n _ hn hx]; rfl
    rw [e, ih _ _ (by omega) (fun x hx => h x (by simp [hx]))]
    simp only [tot, List.length_cons]
    congr 1
    · congr 1; omega
    · omega
theorem fold_l1 : ∀ (d k : Nat) (n : Int), 0 ≤ n → n ≤ 1000000000 → n ≤ 65535 * (d + 1) → d < k → rivuletref04_Sum.l1 k n = some (F n) := by
  intro d
  induction d with
  | zero =>
    intro k n h0 hbig h1 hk
    obtain ⟨k, rfl⟩ : ∃ m, k = m + 1 := ⟨k - 1, by omega⟩
    simp only [rivuletref04_Sum.l1]
    rw [if_neg (by omega)]
    unfold F
    congr 1
    split <;> omega
  | succ d ih =>
    intro k n h0 hbig h1 hk
    obtain ⟨k, rfl⟩ : ∃ m, k = m + 1 := ⟨k - 1, by omega⟩
    simp only [rivuletref04_Sum.l1]
    by_cases h : n > 65535
    · rw [if_pos h]
      have e : wrap64 (wrap64 (n - 65536) + 1) = n - 65535 := by unfold wrap64; omega
      rw [e, ih k (n - 65535) (by omega) (by omega) (by omega) (by omega)]
      unfold F
      congr 1
      rw [if_neg (by omega), if_neg (by omega)]; omega
    · rw [if_neg h]
      unfold F
      congr 1
      split <;> omega
theorem tot_two (l : List Int) : ∀ p, tot (p + 2) l = tot p l := by
  induction l with
  | nil => intro p; rfl
  | cons a l ih =>
    intro p
    simp only [tot]
    have e : (p + 2) % 2 = p % 2 := by omega
    have e2 : p + 2 + 1 = p + 1 + 2 := by omega
    rw [e, e2, ih (p + 1)]
theorem drop_rd (l : List Int) (i : Nat) (h : i < l.length) : l.drop i = rd l i :: l.drop (i + 1) := by
  rw [List.drop_eq_getElem_cons h]
  simp [rd, h]
theorem sum_l0 (l : List Int) (hb : ∀ x ∈ l, 0 ≤ x ∧ x ≤ 255) (hl : l.length ≤ 10000) : ∀ (d k i : Nat) (acc : Int), i % 2 = 0 → l.length ≤ i + 2 * d → d + 20000 < k → 0 ≤ acc → acc + tot 0 (l.drop i) ≤ 1000000000 → rivuletref04_Sum.l0 k l acc i = some (F (acc + tot 0 (l.drop i))) := by
  have fin : ∀ (k i : Nat) (acc : Int), l.length ≤ i → 20000 < k → 0 ≤ acc → acc + tot 0 (l.drop i) ≤ 1000000000 → rivuletref04_Sum.l0 k l acc i = some (F (acc + tot 0 (l.drop i))) := by
    intro k i acc h1 hk h0 h2
    obtain ⟨k, rfl⟩ : ∃ m, k = m + 1 := ⟨k - 1, by omega⟩
    rw [List.drop_of_length_le h1] at h2 ⊢
    simp only [tot, Int.add_zero] at h2 ⊢
    simp only [rivuletref04_Sum.l0]
    rw [if_neg (by omega)]
    exact fold_l1 15500 k acc h0 h2 (by omega) (by omega)
  intro d
  induction d with
  | zero => intro k i acc _ h1 hk h0 h2; exact fin k i acc (by omega) (by omega) h0 h2
  | succ d ih =>
    intro k i acc hi h1 hk h0 h2
    by_cases hlt : i < l.length
    · obtain ⟨k, rfl⟩ : ∃ m, k = m + 1 := ⟨k - 1, by omega⟩
      have hx := hb _ (memI l i hlt)
      have ed := drop_rd l i hlt
      have hw1 : wrap64 ((i : Int) + 1) = ((i + 1 : Nat) : Int) := by unfold wrap64; omega
      have hw2 : wrap64 ((i : Int) + 2) = ((i + 2 : Nat) : Int) := by unfold wrap64; omega
      simp only [rivuletref04_Sum.l0]
      rw [if_pos (by omega), if_pos (by omega), hw1, hw2]
      rw [ed] at h2 ⊢
      simp only [tot, Int.zero_emod, if_true, Int.zero_add] at h2 ⊢
      have hwx : wrap64 (rd l i) = rd l i := by unfold wrap64; omega
      have hwy : wrap64 (256 * rd l i) = 256 * rd l i := by unfold wrap64; omega
      have hrest := tot_nonneg (l.drop (i + 1)) 1 (fun x hx => hb x (List.mem_of_mem_drop hx))
      have hwz : wrap64 (acc + 256 * rd l i) = acc + 256 * rd l i := by unfold wrap64; omega
      by_cases hlt2 : i + 1 < l.length
      · have hy := hb _ (memI l (i + 1) hlt2)
        have ed2 := drop_rd l (i + 1) hlt2
        have e3 : tot 1 (l.drop (i + 1)) = rd l ((i + 1 : Nat) : Int) + tot 0 (l.drop (i + 2)) := by
          rw [ed2]
          simp only [tot]
          rw [if_neg (by omega)]
          congr 1
          exact tot_two _ 0
        rw [if_pos (by omega), if_pos (by omega)]
        have hwy2 : wrap64 (rd l ((i + 1 : Nat) : Int)) = rd l ((i + 1 : Nat) : Int) := by unfold wrap64; omega
        have hww : wrap64 (acc + 256 * rd l i + rd l ((i + 1 : Nat) : Int)) = acc + 256 * rd l i + rd l ((i + 1 : Nat) : Int) := by
          have hr2 := tot_nonneg (l.drop (i + 2)) 0 (fun x hx => hb x (List.mem_of_mem_drop hx))
          unfold wrap64; omega
        rw [hwx, hwy, hwz, hwy2, hww, ih k (i + 2) _ (by omega) (by omega) (by omega) (by omega) (by rw [e3] at h2; omega), e3]
        congr 2; omega
      · rw [if_neg (by omega)]
        have e3 : l.drop (i + 1) = [] := List.drop_of_length_le (by omega)
        have e4 : l.drop (i + 2) = [] := List.drop_of_length_le (by omega)
        rw [e3] at h2 ⊢
        simp only [tot, Int.add_zero] at h2 ⊢
        rw [hwx, hwy, hwz, fin k (i + 2) _ (by omega) (by omega) (by omega) (by rw [e4]; simp only [tot]; omega), e4]
        simp only [tot]
        congr 2; omega
    · exact fin k i acc (by omega) (by omega) h0 h2
theorem refsum_f (l : List Int) (hb : ∀ x ∈ l, 0 ≤ x ∧ x ≤ 255) (hl : l.length ≤ 10000) : rivuletref04_Sum.f 30000 l = some (addF (0, 0) l).1 := by
  have h1 := tot_nonneg l 0 hb
  have h2 := sum_l0 l hb hl 5000 30000 0 0 (by omega) (by omega) (by omega) (by omega) (by rw [List.drop_zero]; omega)
  have h3 := addF_tot l 0 0 (by omega) hb
  have e : F 0 = 0 := by unfold F; rw [if_pos rfl]
  rw [e, Int.zero_add] at h3
  unfold rivuletref04_Sum.f
  rw [h3]
  simpa using h2
theorem addF_len (l : List Int) (hb : ∀ x ∈ l, 0 ≤ x ∧ x ≤ 255) : (addF (0, 0) l).2 = l.length ∧ 0 ≤ (addF (0, 0) l).1 ∧ (addF (0, 0) l).1 ≤ 65535 := by
  have h3 := addF_tot l 0 0 (by omega) hb
  have e : F 0 = 0 := by unfold F; rw [if_pos rfl]
  have h1 := tot_nonneg l 0 hb
  rw [e] at h3
  rw [h3]
  have := F_range (0 + tot 0 l) (by omega)
  exact ⟨by simp, this⟩
end Go.Proofs.Ytndiddfleidnaaa.Sum
