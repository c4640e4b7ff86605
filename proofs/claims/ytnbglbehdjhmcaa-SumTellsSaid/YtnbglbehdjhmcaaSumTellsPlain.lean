/- With one pair of bytes replaced the checksum is another one; pairs may stand in any order: the plain law. -/
import Derived.Test.YtnbglbehdjhmcaaSumAdds
set_option linter.unusedVariables false
set_option linter.unusedSimpArgs false
namespace Go.Proofs.Ytnbglbehdjhmcaa.Sum
open Go.RowKit Go.Proofs.YtnbglbehdjhmcaaW.PrintWords Go.Proofs.Ytnbglbehdjhmcaa.PSumAdds
theorem tot_set (l : List Int) : ∀ (p : Int) (i : Nat) (x : Int), i < l.length → tot p (l.set i x) = tot p l + (if (p + i) % 2 = 0 then 256 * (x - rd l i) else x - rd l i) := by
  induction l with
  | nil => intro p i x h; simp at h
  | cons a l ih =>
    intro p i x h
    cases i with
    | zero =>
      have e : rd (a :: l) ((0 : Nat) : Int) = a := by simp [rd]
      simp only [List.set_cons_zero, tot, e]
      have e2 : p + ((0 : Nat) : Int) = p := by simp
      rw [e2]
      split <;> omega
    | succ i =>
      have e : rd (a :: l) ((i + 1 : Nat) : Int) = rd l i := by simp [rd]
      simp only [List.set_cons_succ, tot]
      rw [ih (p + 1) i x (by simpa using h), e]
      have e2 : (p + 1 + (i : Int)) = p + ((i + 1 : Nat) : Int) := by omega
      rw [e2]
      omega
theorem rd_set_ne (l : List Int) (i j : Nat) (x : Int) (h : i ≠ j) : rd (l.set i x) j = rd l j := by
  unfold rd; simp [List.getD_eq_getElem?_getD, List.getElem?_set, h]
theorem rd_set_eq (l : List Int) (i : Nat) (x : Int) (h : i < l.length) : rd (l.set i x) i = x := by
  unfold rd; simp [h]
/-- Pairs p and q change places. -/
def swapF (l : List Int) (p q : Nat) : List Int := ((((l.set (2 * p) (rd l (2 * q : Nat))).set (2 * q) (rd l (2 * p : Nat))).set (2 * p + 1) (rd l (2 * q + 1 : Nat))).set (2 * q + 1) (rd l (2 * p + 1 : Nat)))
theorem swap_len (l : List Int) (p q : Nat) : (swapF l p q).length = l.length := by simp [swapF]
theorem tot_even (l : List Int) (p : Nat) (x : Int) (h : 2 * p < l.length) : tot 0 (l.set (2 * p) x) = tot 0 l + 256 * (x - rd l (2 * p : Nat)) := by
  rw [tot_set l 0 (2 * p) x h, if_pos (by omega)]
theorem tot_odd (l : List Int) (p : Nat) (x : Int) (h : 2 * p + 1 < l.length) : tot 0 (l.set (2 * p + 1) x) = tot 0 l + (x - rd l (2 * p + 1 : Nat)) := by
  rw [tot_set l 0 (2 * p + 1) x h, if_neg (by omega)]
theorem swap_tot (l : List Int) (p q : Nat) (hp : 2 * p + 1 < l.length) (hq : 2 * q + 1 < l.length) : tot 0 (swapF l p q) = tot 0 l := by
  unfold swapF
  rw [tot_odd _ q _ (by simp; omega), tot_odd _ p _ (by simp; omega), tot_even _ q _ (by simp; omega), tot_even _ p _ (by omega)]
  by_cases h : p = q
  · subst h
    rw [rd_set_eq _ (2 * p + 1) _ (by simp; omega), rd_set_ne _ (2 * p) (2 * p + 1) _ (by omega), rd_set_ne _ (2 * p) (2 * p + 1) _ (by omega), rd_set_eq _ (2 * p) _ (by omega)]
    omega
  · rw [rd_set_ne _ (2 * p + 1) (2 * q + 1) _ (by omega), rd_set_ne _ (2 * q) (2 * q + 1) _ (by omega), rd_set_ne _ (2 * p) (2 * q + 1) _ (by omega), rd_set_ne _ (2 * q) (2 * p + 1) _ (by omega), rd_set_ne _ (2 * p) (2 * p + 1) _ (by omega), rd_set_ne _ (2 * p) (2 * q) _ (by omega)]
    omega
/-- Pair p is another one now. -/
def pairF (l : List Int) (p : Nat) (x y : Int) : List Int := (l.set (2 * p) x).set (2 * p + 1) y
theorem pair_tot (l : List Int) (p : Nat) (x y : Int) (hp : 2 * p + 1 < l.length) : tot 0 (pairF l p x y) = tot 0 l - (256 * rd l (2 * p : Nat) + rd l (2 * p + 1 : Nat)) + (256 * x + y) := by
  unfold pairF
  rw [tot_odd _ p _ (by simp; omega), tot_even _ p _ (by omega), rd_set_ne _ (2 * p) (2 * p + 1) _ (by omega)]
  omega
theorem bytes_set {l : List Int} {i : Nat} {x : Int} (h : ∀ z ∈ l, 0 ≤ z ∧ z ≤ 255) (hx : 0 ≤ x ∧ x ≤ 255) : ∀ z ∈ l.set i x, 0 ≤ z ∧ z ≤ 255 := fun z hz => by
  rcases List.mem_or_eq_of_mem_set hz with h1 | rfl
  · exact h z h1
  · exact hx
theorem rd_bytes {l : List Int} (h : ∀ z ∈ l, 0 ≤ z ∧ z ≤ 255) (i : Nat) : 0 ≤ rd l i ∧ rd l i ≤ 255 := by
  by_cases hi : i < l.length
  · exact h _ (memI l i hi)
  · have : rd l i = 0 := by unfold rd; simp [show l.length ≤ i by omega]
    omega
theorem sum_F (l : List Int) (h : ∀ z ∈ l, 0 ≤ z ∧ z ≤ 255) : (addF (0, 0) l).1 = F (tot 0 l) := by
  have h3 := addF_tot l 0 0 (by omega) h
  have e : F 0 = 0 := by unfold F; rw [if_pos rfl]
  rw [e] at h3
  rw [h3, Int.zero_add]
theorem swap_bytes {l : List Int} (h : ∀ z ∈ l, 0 ≤ z ∧ z ≤ 255) (p q : Nat) : ∀ z ∈ swapF l p q, 0 ≤ z ∧ z ≤ 255 := bytes_set (bytes_set (bytes_set (bytes_set h (rd_bytes h _)) (rd_bytes h _)) (rd_bytes h _)) (rd_bytes h _)
theorem swap_sum (l : List Int) (h : ∀ z ∈ l, 0 ≤ z ∧ z ≤ 255) (p q : Nat) (hp : 2 * p + 1 < l.length) (hq : 2 * q + 1 < l.length) : (addF (0, 0) (swapF l p q)).1 = (addF (0, 0) l).1 := by
  rw [sum_F _ (swap_bytes h p q), sum_F _ h, swap_tot l p q hp hq]
theorem pair_bytes {l : List Int} (h : ∀ z ∈ l, 0 ≤ z ∧ z ≤ 255) (p : Nat) {x y : Int} (hx : 0 ≤ x ∧ x ≤ 255) (hy : 0 ≤ y ∧ y ≤ 255) : ∀ z ∈ pairF l p x y, 0 ≤ z ∧ z ≤ 255 := bytes_set (bytes_set h hx) hy
theorem pair_sum (l : List Int) (h : ∀ z ∈ l, 0 ≤ z ∧ z ≤ 255) (p : Nat) (hp : 2 * p + 1 < l.length) (old by' : Int) (ho : 256 * rd l (2 * p : Nat) + rd l (2 * p + 1 : Nat) = old) (hb : 0 ≤ by' ∧ by' ≤ 65535) :
    (old = by' → (addF (0, 0) (pairF l p (by' / 256) (by' % 256))).1 = (addF (0, 0) l).1) ∧ (old ≠ by' → ¬ (old = 0 ∧ by' = 65535) → ¬ (old = 65535 ∧ by' = 0) → (addF (0, 0) (pairF l p (by' / 256) (by' % 256))).1 ≠ (addF (0, 0) l).1) := by
  have hT := pair_tot l p (by' / 256) (by' % 256) hp
  have hT0 := pair_tot l p 0 0 hp
  have h0 := tot_nonneg (pairF l p 0 0) 0 (pair_bytes h p (by omega) (by omega))
  have h1 := rd_bytes h (2 * p)
  have h2 := rd_bytes h (2 * p + 1)
  rw [sum_F _ (pair_bytes h p (by omega) (by omega)), sum_F _ h]
  rw [ho] at hT hT0
  have e : 256 * (by' / 256) + by' % 256 = by' := by omega
  rw [e] at hT
  generalize tot 0 (pairF l p (by' / 256) (by' % 256)) = T2 at hT ⊢
  generalize tot 0 (pairF l p 0 0) = T3 at hT0 h0
  generalize tot 0 l = T at hT hT0 ⊢
  have h3 : 0 ≤ T - old := by omega
  have h4 : 0 ≤ old ∧ old ≤ 65535 := by omega
  clear h0 hT0 h1 h2 ho
  subst hT
  constructor
  · intro he; subst he; congr 1; omega
  · intro hne n1 n2
    unfold F
    split <;> split <;> omega
end Go.Proofs.Ytnbglbehdjhmcaa.Sum
