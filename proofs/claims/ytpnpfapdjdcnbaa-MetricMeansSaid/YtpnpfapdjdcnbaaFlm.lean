/- A mean moves between what it was and the sample. No condition. -/
import Derived.Test.YtpnpfapdjdcnbaaFl
set_option linter.unusedVariables false
set_option linter.unusedSimpArgs false
namespace Go.Proofs.Ytpnpfapdjdcnbaa.Fl
open Ieee
theorem val_near {m : Nat} (hm : m ≠ 0) {p : Int} (hp : -1022 ≤ p + m.log2) (hq : p + m.log2 ≤ 1021) : val (double.nearest false m p) = kept m * 2 ^ (p + m.log2 + 1022).toNat ∧ 4503599627370496 ≤ double.nearest false m p ∧ double.nearest false m p < 9218868437227405312 := by
  rw [near_norm hm hp]
  have k1 := kept_ge hm
  have k2 := kept_le hm
  obtain ⟨q, e⟩ : ∃ q : Nat, (p + m.log2 + 1022).toNat = q := ⟨_, rfl⟩
  rw [e]
  have hq2 : q ≤ 2043 := by omega
  rw [Nat.min_eq_left (by omega)]
  refine ⟨?_, by omega, by omega⟩
  unfold val
  rcases Nat.lt_or_ge (kept m) (2 * 4503599627370496) with h | h
  · rw [show (q * 4503599627370496 + kept m) / 4503599627370496 - 1 = q by omega, show 4503599627370496 + (q * 4503599627370496 + kept m) % 4503599627370496 = kept m by omega]
  · have h2 : kept m = 2 * 4503599627370496 := by omega
    rw [h2, show (q * 4503599627370496 + 2 * 4503599627370496) / 4503599627370496 - 1 = q + 1 by omega, show 4503599627370496 + (q * 4503599627370496 + 2 * 4503599627370496) % 4503599627370496 = 4503599627370496 by omega, Nat.pow_succ]
    omega
theorem kept_err {m : Nat} (h : 52 < m.log2) : 2 * (kept m * 2 ^ (m.log2 - 52)) ≤ 2 * m + 2 ^ (m.log2 - 52) ∧ 2 * m ≤ 2 * (kept m * 2 ^ (m.log2 - 52)) + 2 ^ (m.log2 - 52) := by
  unfold kept
  rw [if_neg (by omega), cut_val _ _ (by omega)]
  have p := Nat.two_pow_pos (m.log2 - 52)
  generalize 2 ^ (m.log2 - 52) = G at *
  have hd := Nat.div_add_mod m G
  have hm := Nat.mod_lt m p
  generalize m / G = q at *
  generalize m % G = r at *
  rw [Nat.add_mul]
  have e : q * G = G * q := Nat.mul_comm _ _
  split
  · rw [Nat.one_mul]; omega
  · rw [Nat.zero_mul]; omega
/-- Above the middle below a word that is no power of two: not below the word. -/
theorem near_ge2 {m : Nat} (hm : m ≠ 0) {p : Int} (hp0 : -1074 ≤ p) (hp : -1022 ≤ p + m.log2) {x : Nat} (h1 : 4503599627370496 ≤ x) (h2 : x < 9218868437227405312) (hb : 1 ≤ x % 4503599627370496) (hv : (2 * (4503599627370496 + x % 4503599627370496) - 1) * 2 ^ (x / 4503599627370496 - 1) < 2 * (m * 2 ^ (p + 1074).toNat)) : x ≤ double.nearest false m p := by
  rcases Nat.lt_or_ge (m * 2 ^ (p + 1074).toNat) (val x) with hc | hc
  rotate_left
  · exact near_ge hm hp0 hp h1 h2 hc
  rw [near_norm hm hp]
  refine Nat.le_min.2 ⟨?_, by omega⟩
  have hll := log_le hm
  have hlt := @lt_log m
  obtain ⟨q, hq⟩ : ∃ q : Nat, (p + m.log2 + 1022).toNat = q := ⟨_, rfl⟩
  rw [hq]
  obtain ⟨E, hE⟩ : ∃ E, x / 4503599627370496 - 1 = E := ⟨_, rfl⟩
  unfold val at hc
  rw [hE] at hv hc
  have hx : x = E * 4503599627370496 + (4503599627370496 + x % 4503599627370496) := by omega
  obtain ⟨s, hs⟩ : ∃ s, (p + 1074).toNat = s := ⟨_, rfl⟩
  rw [hs] at hv hc
  have hmx : 4503599627370496 + 1 ≤ 4503599627370496 + x % 4503599627370496 ∧ 4503599627370496 + x % 4503599627370496 < 2 * 4503599627370496 := by omega
  generalize 4503599627370496 + x % 4503599627370496 = mx at *
  have hpE := Nat.two_pow_pos E
  -- the binade
  have hEq : E = q := by
    have a := Nat.mul_lt_mul_of_pos_right hlt (Nat.two_pow_pos s)
    rw [← Nat.pow_add, show m.log2 + 1 + s = 53 + q by omega] at a
    have a2 := Nat.mul_le_mul_right (2 ^ s) hll
    rw [← Nat.pow_add, show m.log2 + s = 52 + q by omega] at a2
    have b : 4503599627370496 * 2 ^ E < m * 2 ^ s := by
      have : (2 * 4503599627370496 + 1) * 2 ^ E ≤ (2 * mx - 1) * 2 ^ E := Nat.mul_le_mul_right _ (by omega)
      have e1 : (2 * 4503599627370496 + 1) * 2 ^ E = 2 * (4503599627370496 * 2 ^ E) + 2 ^ E := by rw [Nat.add_mul, Nat.one_mul, Nat.mul_assoc]
      omega
    have c : m * 2 ^ s < 2 * 4503599627370496 * 2 ^ E := Nat.lt_trans hc (Nat.mul_lt_mul_of_pos_right hmx.2 hpE)
    have e52 : 4503599627370496 * 2 ^ E = 2 ^ (52 + E) := by rw [show 4503599627370496 = 2 ^ 52 by decide +kernel, ← Nat.pow_add]
    have e53 : 2 * 4503599627370496 * 2 ^ E = 2 ^ (53 + E) := by rw [show 2 * 4503599627370496 = 2 ^ 53 by decide +kernel, ← Nat.pow_add]
    rw [e52] at b
    rw [e53] at c
    have f1 : 52 + E < 53 + q := (Nat.pow_lt_pow_iff_right (show 1 < 2 by decide)).1 (Nat.lt_trans b a)
    have f2 : 52 + q < 53 + E := (Nat.pow_lt_pow_iff_right (show 1 < 2 by decide)).1 (Nat.lt_of_le_of_lt a2 c)
    omega
  subst hEq
  have hk : mx ≤ kept m := by
    unfold kept
    split
    · rename_i hl
      rw [show s = (52 - m.log2) + E by omega, Nat.pow_add, ← Nat.mul_assoc, ← Nat.mul_assoc] at hv
      have := Nat.lt_of_mul_lt_mul_right hv
      rw [Nat.mul_assoc] at this
      omega
    · rename_i hl
      rw [show E = (m.log2 - 52) + s by omega, Nat.pow_add, ← Nat.mul_assoc, ← Nat.mul_assoc] at hv
      have hv2 := Nat.lt_of_mul_lt_mul_right hv
      rw [cut_val _ _ (by omega)]
      have p2 := Nat.two_pow_pos (m.log2 - 52)
      have hdm := Nat.div_add_mod m (2 ^ (m.log2 - 52))
      have hml := Nat.mod_lt m p2
      generalize 2 ^ (m.log2 - 52) = G at *
      obtain ⟨k, hk⟩ : ∃ k, mx = k + 1 := ⟨mx - 1, by omega⟩
      subst hk
      have e1 : (2 * (k + 1) - 1) * G = 2 * (k * G) + G := by rw [show 2 * (k + 1) - 1 = 2 * k + 1 by omega, Nat.add_mul, Nat.one_mul, Nat.mul_assoc]
      rw [e1] at hv2
      rcases Nat.lt_or_ge (m / G) (k + 1) with h | h
      · rcases Nat.lt_or_ge (m / G) k with h3 | h3
        · have := Nat.mul_le_mul_left G (show m / G + 1 ≤ k from h3)
          rw [Nat.mul_add, Nat.mul_one, Nat.mul_comm G k] at this
          omega
        · have h4 : m / G = k := by omega
          rw [h4] at hdm ⊢
          rw [Nat.mul_comm] at hdm
          rw [if_pos (.inl (by omega))]
          omega
      · omega
  omega
/-- Below the middle above a word: not above the word. -/
theorem near_le2 {m : Nat} (hm : m ≠ 0) {p : Int} (hp0 : -1074 ≤ p) (hp : -1022 ≤ p + m.log2) {x : Nat} (h1 : 4503599627370496 ≤ x) (h2 : x < 9218868437227405312) (hv : 2 * (m * 2 ^ (p + 1074).toNat) < (2 * (4503599627370496 + x % 4503599627370496) + 1) * 2 ^ (x / 4503599627370496 - 1)) : double.nearest false m p ≤ x := by
  rcases Nat.lt_or_ge (val x) (m * 2 ^ (p + 1074).toNat) with hc | hc
  rotate_left
  · exact near_le hm hp0 hp h1 h2 hc
  rw [near_norm hm hp]
  refine Nat.le_trans (Nat.min_le_left _ _) ?_
  have hll := log_le hm
  have hlt := @lt_log m
  obtain ⟨q, hq⟩ : ∃ q : Nat, (p + m.log2 + 1022).toNat = q := ⟨_, rfl⟩
  rw [hq]
  obtain ⟨E, hE⟩ : ∃ E, x / 4503599627370496 - 1 = E := ⟨_, rfl⟩
  unfold val at hc
  rw [hE] at hv hc
  have hx : x = E * 4503599627370496 + (4503599627370496 + x % 4503599627370496) := by omega
  obtain ⟨s, hs⟩ : ∃ s, (p + 1074).toNat = s := ⟨_, rfl⟩
  rw [hs] at hv hc
  have hmx : 4503599627370496 ≤ 4503599627370496 + x % 4503599627370496 ∧ 4503599627370496 + x % 4503599627370496 < 2 * 4503599627370496 := by omega
  generalize 4503599627370496 + x % 4503599627370496 = mx at *
  have hpE := Nat.two_pow_pos E
  have hEq : E = q := by
    have a := Nat.mul_lt_mul_of_pos_right hlt (Nat.two_pow_pos s)
    rw [← Nat.pow_add, show m.log2 + 1 + s = 53 + q by omega] at a
    have a2 := Nat.mul_le_mul_right (2 ^ s) hll
    rw [← Nat.pow_add, show m.log2 + s = 52 + q by omega] at a2
    have b : 4503599627370496 * 2 ^ E < m * 2 ^ s := Nat.lt_of_le_of_lt (Nat.mul_le_mul_right _ hmx.1) hc
    have c : m * 2 ^ s < 2 * 4503599627370496 * 2 ^ E := by
      have : (2 * mx + 1) * 2 ^ E ≤ (2 * (2 * 4503599627370496) - 1) * 2 ^ E := Nat.mul_le_mul_right _ (by omega)
      have e1 : (2 * (2 * 4503599627370496) - 1) * 2 ^ E + 2 ^ E = 2 * (2 * 4503599627370496 * 2 ^ E) := by
        rw [← Nat.mul_assoc]
        have : (2 * (2 * 4503599627370496) - 1) * 2 ^ E + 1 * 2 ^ E = (2 * (2 * 4503599627370496) - 1 + 1) * 2 ^ E := (Nat.add_mul _ _ _).symm
        omega
      omega
    have e52 : 4503599627370496 * 2 ^ E = 2 ^ (52 + E) := by rw [show 4503599627370496 = 2 ^ 52 by decide +kernel, ← Nat.pow_add]
    have e53 : 2 * 4503599627370496 * 2 ^ E = 2 ^ (53 + E) := by rw [show 2 * 4503599627370496 = 2 ^ 53 by decide +kernel, ← Nat.pow_add]
    rw [e52] at b
    rw [e53] at c
    have f1 : 52 + E < 53 + q := (Nat.pow_lt_pow_iff_right (show 1 < 2 by decide)).1 (Nat.lt_trans b a)
    have f2 : 52 + q < 53 + E := (Nat.pow_lt_pow_iff_right (show 1 < 2 by decide)).1 (Nat.lt_of_le_of_lt a2 c)
    omega
  subst hEq
  have hk : kept m ≤ mx := by
    unfold kept
    split
    · rename_i hl
      rw [show s = (52 - m.log2) + E by omega, Nat.pow_add, ← Nat.mul_assoc, ← Nat.mul_assoc] at hv
      have := Nat.lt_of_mul_lt_mul_right hv
      rw [Nat.mul_assoc] at this
      omega
    · rename_i hl
      rw [show E = (m.log2 - 52) + s by omega, Nat.pow_add, ← Nat.mul_assoc, ← Nat.mul_assoc] at hv
      have hv2 := Nat.lt_of_mul_lt_mul_right hv
      rw [cut_val _ _ (by omega)]
      have p2 := Nat.two_pow_pos (m.log2 - 52)
      have hdm := Nat.div_add_mod m (2 ^ (m.log2 - 52))
      have hml := Nat.mod_lt m p2
      generalize 2 ^ (m.log2 - 52) = G at *
      have e1 : (2 * mx + 1) * G = 2 * (mx * G) + G := by rw [Nat.add_mul, Nat.one_mul, Nat.mul_assoc]
      rw [e1] at hv2
      rcases Nat.lt_or_ge mx (m / G) with h | h
      · have := Nat.mul_le_mul_left G (show mx + 1 ≤ m / G from h)
        rw [Nat.mul_add, Nat.mul_one, Nat.mul_comm G mx] at this
        omega
      · rcases Nat.lt_or_ge (m / G) mx with h3 | h3
        · split <;> omega
        · have h4 : m / G = mx := by omega
          rw [h4] at hdm ⊢
          rw [Nat.mul_comm] at hdm
          rw [if_neg (by omega)]
          omega
  omega
theorem val_succ {x : Nat} (h : 4503599627370496 ≤ x) : val (x + 1) = val x + 2 ^ (x / 4503599627370496 - 1) := by
  unfold val
  rcases Nat.lt_or_ge (x % 4503599627370496 + 1) 4503599627370496 with h2 | h2
  · rw [show (x + 1) / 4503599627370496 = x / 4503599627370496 by omega, show (x + 1) % 4503599627370496 = x % 4503599627370496 + 1 by omega, ← Nat.add_assoc, Nat.add_mul, Nat.one_mul]
  · rw [show (x + 1) / 4503599627370496 - 1 = (x / 4503599627370496 - 1) + 1 by omega, show (x + 1) % 4503599627370496 = 0 by omega, show x % 4503599627370496 = 4503599627370496 - 1 by omega, Nat.pow_succ]
    omega
theorem fl_val {n : Nat} (h1 : 1 ≤ n) (h2 : n ≤ 1000000) : val (fl n) = n * U := by
  obtain ⟨x, a, _, _, _, f, _, _⟩ := int_word (n := n) (by omega) (by omega)
  unfold fl
  rw [a]; exact f
theorem val_inj {x y : Nat} (h1 : 4503599627370496 ≤ x) (h2 : 4503599627370496 ≤ y) (h : val x ≤ val y) : x ≤ y := by
  rcases Nat.lt_or_ge y x with h3 | h3
  · have := val_lt h2 h3; omega
  · exact h3
/-- 8 times, as a word. -/
theorem val_8 (x : Nat) (h : 4503599627370496 ≤ x) : val (x + 3 * 4503599627370496) = 8 * val x := by
  unfold val
  rw [show (x + 3 * 4503599627370496) / 4503599627370496 - 1 = (x / 4503599627370496 - 1) + 3 by omega, show (x + 3 * 4503599627370496) % 4503599627370496 = x % 4503599627370496 by omega, Nat.pow_add, ← Nat.mul_assoc]
  omega
theorem move_between {x n : Nat} (h1 : 4607182418800017408 ≤ x) (h2 : x ≤ 4625196817309499392) (hn1 : 1 ≤ n) (hn2 : n ≤ 16) : (x ≤ fl n → x ≤ moveF true x n ∧ moveF true x n ≤ fl n) ∧ (fl n ≤ x → fl n ≤ moveF true x n ∧ moveF true x n ≤ x) := by
  have hr : right x := ⟨h1, by omega⟩
  obtain ⟨r1, a1, b1, c1⟩ := mul_7 hr
  obtain ⟨r2, a2, b2, c2⟩ := add_17 b1 c1 (fl_ok hn1 (by omega))
  have hv := fl_ok hn1 (show n ≤ 1000000 by omega)
  -- the product
  obtain ⟨M, p, e1, e2, e3, e4, e5, e6⟩ := mul_norm (x := x) (y := 4619567317775286272) (by omega) (by omega) (by omega) (by omega) (by omega)
  have hr1 : r1 = double.nearest false M p := by rw [a1] at e1; exact Option.some.inj e1
  have hE : 1023 ≤ x / 4503599627370496 ∧ x / 4503599627370496 ≤ 1027 := by omega
  have e7 : (4619567317775286272 / 4503599627370496 : Nat) = 1025 := by decide +kernel
  have e8 : (4503599627370496 + 4619567317775286272 % 4503599627370496 : Nat) = 7 * 2 ^ 50 := by decide +kernel
  rw [e7] at e6
  rw [e8] at e5
  have hMB : 4503599627370496 ≤ 4503599627370496 + x % 4503599627370496 ∧ 4503599627370496 + x % 4503599627370496 < 2 * 4503599627370496 := by omega
  have hl1 : 104 ≤ M.log2 := (Nat.le_log2 e2).2 (by
    rw [e5]
    have e : (2 : Nat) ^ 104 = 4503599627370496 * (4 * 2 ^ 50) := by decide +kernel
    rw [e]; exact Nat.mul_le_mul hMB.1 (by decide))
  have hl2 : M.log2 < 106 := (Nat.log2_lt e2).2 (by
    rw [e5]
    have e : (2 : Nat) ^ 106 = 2 * 4503599627370496 * (8 * 2 ^ 50) := by decide +kernel
    rw [e]; exact Nat.mul_lt_mul_of_lt_of_le hMB.2 (by decide) (by decide))
  have hp7 : p = (x / 4503599627370496 : Nat) - 1125 := by omega
  obtain ⟨v1, v2, v3⟩ := val_near e2 e4 (by omega)
  rw [← hr1] at v1 v2 v3
  -- in units of the last digit
  obtain ⟨u, hu⟩ : ∃ u, 2 ^ (x / 4503599627370496 - 1) = u := ⟨_, rfl⟩
  have hup : 0 < u := by rw [← hu]; exact Nat.two_pow_pos _
  have hvx : val x = (4503599627370496 + x % 4503599627370496) * u := by unfold val; rw [hu]
  have hpow : 2 ^ (M.log2 - 52) * 2 ^ (x / 4503599627370496 - 51) = 2 ^ (p + M.log2 + 1022).toNat := by rw [← Nat.pow_add]; congr 1; omega
  have hu50 : u = 2 ^ 50 * 2 ^ (x / 4503599627370496 - 51) := by rw [← hu, ← Nat.pow_add]; congr 1; omega
  obtain ⟨er1, er2⟩ := kept_err (m := M) (by omega)
  have hval1 : val r1 = kept M * 2 ^ (M.log2 - 52) * 2 ^ (x / 4503599627370496 - 51) := by rw [v1, ← hpow, Nat.mul_assoc]
  obtain ⟨K, hK⟩ : ∃ K, 2 ^ (x / 4503599627370496 - 51) = K := ⟨_, rfl⟩
  have hG : 2 ^ (M.log2 - 52) ≤ 8 * 2 ^ 50 := by
    have e : (2 : Nat) ^ 53 = 8 * 2 ^ 50 := by decide +kernel
    rw [← e]; exact Nat.pow_le_pow_right (by decide) (by omega)
  rw [hK] at hu50 hval1
  generalize kept M * 2 ^ (M.log2 - 52) = Q at *
  -- the product's error: at most 4 units
  have lo1 : 7 * val x ≤ val r1 + 4 * u := by
    have := Nat.mul_le_mul_right K (show 2 * M ≤ 2 * Q + 8 * 2 ^ 50 by omega)
    rw [hval1, hvx, hu50]
    rw [e5] at this
    have q1 : 2 * ((4503599627370496 + x % 4503599627370496) * (7 * 2 ^ 50)) * K = 2 * (7 * ((4503599627370496 + x % 4503599627370496) * (2 ^ 50 * K))) := by
      simp only [Nat.mul_assoc, Nat.mul_left_comm, Nat.mul_comm]
    have q2 : (2 * Q + 8 * 2 ^ 50) * K = 2 * (Q * K) + 2 * (4 * (2 ^ 50 * K)) := by
      rw [Nat.add_mul, Nat.mul_assoc, Nat.mul_assoc 8]; omega
    rw [q1, q2] at this
    omega
  have hi1 : val r1 ≤ 7 * val x + 4 * u := by
    have := Nat.mul_le_mul_right K (show 2 * Q ≤ 2 * M + 8 * 2 ^ 50 by omega)
    rw [hval1, hvx, hu50]
    rw [e5] at this
    have q1 : (2 * ((4503599627370496 + x % 4503599627370496) * (7 * 2 ^ 50)) + 8 * 2 ^ 50) * K = 2 * (7 * ((4503599627370496 + x % 4503599627370496) * (2 ^ 50 * K))) + 2 * (4 * (2 ^ 50 * K)) := by
      have : 2 * ((4503599627370496 + x % 4503599627370496) * (7 * 2 ^ 50)) * K = 2 * (7 * ((4503599627370496 + x % 4503599627370496) * (2 ^ 50 * K))) := by
        simp only [Nat.mul_assoc, Nat.mul_left_comm, Nat.mul_comm]
      rw [Nat.add_mul, this, Nat.mul_assoc 8]; omega
    have q2 : 2 * Q * K = 2 * (Q * K) := Nat.mul_assoc _ _ _
    rw [q1, q2] at this
    omega
  -- of a power of two: none
  have ex1 : x % 4503599627370496 = 0 → val r1 = 7 * val x := fun h0 => by
    have hMv : M * 2 ^ (p + 1074).toNat = 7 * val x := by
      rw [e6, show x / 4503599627370496 + 1025 - 1076 = x / 4503599627370496 - 51 by omega, hK, e5, hvx, hu50]
      simp only [Nat.mul_assoc, Nat.mul_left_comm, Nat.mul_comm]
    have h7 : val (x + 2 * 4503599627370496 + 3377699720527872) = 7 * val x := by
      rw [hvx, ← hu]
      unfold val
      rw [show (x + 2 * 4503599627370496 + 3377699720527872) / 4503599627370496 - 1 = (x / 4503599627370496 - 1) + 2 by omega, show (x + 2 * 4503599627370496 + 3377699720527872) % 4503599627370496 = 3377699720527872 by omega, h0, Nat.pow_add]
      omega
    have g1 := near_ge e2 e3 e4 (x := x + 2 * 4503599627370496 + 3377699720527872) (by omega) (by omega) (by rw [h7, hMv]; exact Nat.le_refl _)
    have g2 := near_le e2 e3 e4 (x := x + 2 * 4503599627370496 + 3377699720527872) (by omega) (by omega) (by rw [h7, hMv]; exact Nat.le_refl _)
    rw [← h7]
    congr 1
    omega
  -- the product against the whole number
  have f7 := fl_val (n := 7 * n) (by omega) (by omega)
  have f8 := fl_val (n := 8 * n) (by omega) (by omega)
  have f1 := fl_val (n := n) (by omega) (by omega)
  have k7 := fl_ok (n := 7 * n) (by omega) (by omega)
  have k8 := fl_ok (n := 8 * n) (by omega) (by omega)
  have hMv : M * 2 ^ (p + 1074).toNat = 7 * val x := by
    rw [e6, show x / 4503599627370496 + 1025 - 1076 = x / 4503599627370496 - 51 by omega, hK, e5, hvx, hu50]
    simp only [Nat.mul_assoc, Nat.mul_left_comm, Nat.mul_comm]
  have f8' : fl (8 * n) = fl n + 3 * 4503599627370496 := by
    have e : val (fl (8 * n)) = val (fl n + 3 * 4503599627370496) := by rw [f8, val_8 _ (by omega), f1, Nat.mul_assoc]
    exact Nat.le_antisymm (val_inj (by omega) (by omega) (Nat.le_of_eq e)) (val_inj (by omega) (by omega) (Nat.le_of_eq e.symm))
  have f7' : 7 * val (fl n) = val (fl (7 * n)) := by rw [f7, f1, Nat.mul_assoc]
  have f8'' : val (fl (7 * n)) + val (fl n) = val (fl (8 * n)) := by rw [f7, f1, f8, ← Nat.add_mul]; congr 1; omega
  -- the sum
  obtain ⟨M2, p2, g1, g2, g3, g4, g5⟩ := add_norm (x := r1) (y := fl n) (by omega) v3 (by omega) hv.2
  have hr2 : r2 = double.nearest false M2 p2 := by rw [a2] at g1; exact Option.some.inj g1
  have hx8 : 2 ^ ((x + 3 * 4503599627370496) / 4503599627370496 - 1) = u * 8 := by
    rw [← hu, show (x + 3 * 4503599627370496) / 4503599627370496 - 1 = (x / 4503599627370496 - 1) + 3 by omega, Nat.pow_add]
  have hm8 : (x + 3 * 4503599627370496) % 4503599627370496 = x % 4503599627370496 := by omega
  have hv8 := val_8 x (by omega)
  have hq1 : (2 * (4503599627370496 + x % 4503599627370496) - 1) * (u * 8) + 8 * u = 16 * val x := by
    have : (2 * (4503599627370496 + x % 4503599627370496) - 1) * (u * 8) + 1 * (u * 8) = (2 * (4503599627370496 + x % 4503599627370496) - 1 + 1) * (u * 8) := (Nat.add_mul _ _ _).symm
    rw [show 2 * (4503599627370496 + x % 4503599627370496) - 1 + 1 = 2 * (4503599627370496 + x % 4503599627370496) by omega] at this
    have h9 : 2 * (4503599627370496 + x % 4503599627370496) * (u * 8) = 16 * ((4503599627370496 + x % 4503599627370496) * u) := by
      rw [Nat.mul_assoc, ← Nat.mul_assoc (4503599627370496 + x % 4503599627370496) u 8]
      omega
    rw [h9, ← hvx] at this
    omega
  have hq2 : (2 * (4503599627370496 + x % 4503599627370496) + 1) * (u * 8) = 16 * val x + 8 * u := by
    rw [Nat.add_mul, Nat.one_mul]
    have h9 : 2 * (4503599627370496 + x % 4503599627370496) * (u * 8) = 16 * ((4503599627370496 + x % 4503599627370496) * u) := by
      rw [Nat.mul_assoc, ← Nat.mul_assoc (4503599627370496 + x % 4503599627370496) u 8]
      omega
    rw [h9, ← hvx]
    omega
  have key : (x ≤ fl n → x + 3 * 4503599627370496 ≤ r2 ∧ r2 ≤ fl (8 * n)) ∧ (fl n ≤ x → fl (8 * n) ≤ r2 ∧ r2 ≤ x + 3 * 4503599627370496) := by
    rw [hr2]
    constructor
    · intro hle
      have hm := val_mono (by omega) hle
      have up1 : val r1 ≤ val (fl (7 * n)) := by
        rw [hr1]
        refine val_mono ?_ (near_le e2 e3 e4 (by omega) (by omega) (by rw [hMv, ← f7']; omega))
        rw [← hr1]; exact v2
      refine ⟨?_, near_le g2 g3 g4 (by omega) k8.2 (by rw [g5, ← f8'']; omega)⟩
      rcases Nat.lt_or_eq_of_le hle with hlt | heq
      · have hs := val_succ (x := x) (by omega)
        rw [hu] at hs
        have hm2 := val_mono (x := x + 1) (y := fl n) (by omega) hlt
        rcases Nat.eq_zero_or_pos (x % 4503599627370496) with h0 | h0
        · have := ex1 h0
          exact near_ge g2 g3 g4 (by omega) (by omega) (by rw [g5, hv8]; omega)
        · exact near_ge2 g2 g3 g4 (by omega) (by omega) (by omega) (by rw [g5, hx8, hm8]; omega)
      · have lo7 : val (fl (7 * n)) ≤ val r1 := by
          rw [hr1]
          exact val_mono (by omega) (near_ge e2 e3 e4 (by omega) (by omega) (by rw [hMv, ← f7', heq]; exact Nat.le_refl _))
        rw [heq, ← f8']
        exact near_ge g2 g3 g4 (by omega) k8.2 (by rw [g5, ← f8'']; omega)
    · intro hle
      have hm := val_mono (x := fl n) (by omega) hle
      have lo7 : val (fl (7 * n)) ≤ val r1 := by
        rw [hr1]
        exact val_mono (by omega) (near_ge e2 e3 e4 (by omega) (by omega) (by rw [hMv, ← f7']; omega))
      refine ⟨near_ge g2 g3 g4 (by omega) k8.2 (by rw [g5, ← f8'']; omega), ?_⟩
      rcases Nat.eq_zero_or_pos (x % 4503599627370496) with h0 | h0
      · have := ex1 h0
        exact near_le g2 g3 g4 (by omega) (by omega) (by rw [g5, hv8]; omega)
      · rcases Nat.lt_or_eq_of_le hle with hlt | heq
        · have hs := val_succ (x := x - 1) (by omega)
          rw [show x - 1 + 1 = x by omega, show (x - 1) / 4503599627370496 - 1 = x / 4503599627370496 - 1 by omega, hu] at hs
          have hm2 := val_mono (x := fl n) (y := x - 1) (by omega) (by omega)
          exact near_le2 g2 g3 g4 (by omega) (by omega) (by rw [g5, hx8, hm8]; omega)
        · have up1 : val r1 ≤ val (fl (7 * n)) := by
            rw [hr1]
            refine val_mono ?_ (near_le e2 e3 e4 (by omega) (by omega) (by rw [hMv, ← f7', heq]; exact Nat.le_refl _))
            rw [← hr1]; exact v2
          rw [← heq, ← f8']
          exact near_le g2 g3 g4 (by omega) k8.2 (by rw [g5, ← f8'']; omega)
  have hr3 : r2 < 9218868437227405312 := by
    rcases Nat.le_total x (fl n) with h | h
    · have := (key.1 h).2; omega
    · have := (key.2 h).2; omega
  have h3 : moveF true x n = r2 - 3 * 4503599627370496 := moveF_yes a1 a2 (div_pow (k := 3) (by omega) hr3 (by omega))
  rw [h3]
  exact ⟨fun h => by have := key.1 h; omega, fun h => by have := key.2 h; omega⟩
theorem gt_right {x y : Nat} (hx : right x) (hy : right y) : (double.order x y == some .gt) = decide (y < x) := by
  rw [order_right hx hy]
  unfold cmpN
  by_cases h : y < x
  · rw [if_neg (by omega), if_neg (by omega), decide_eq_true h]; rfl
  · rw [decide_eq_false h]; split
    · rfl
    · rw [if_pos (by omega)]; rfl
theorem fl_16 {n : Nat} (h1 : 1 ≤ n) (h2 : n ≤ 16) : fl n ≤ 4625196817309499392 := by
  have h16 : fl 16 = 4625196817309499392 := by decide +kernel
  rw [← h16]
  refine val_inj ?_ ?_ ?_
  · have := fl_ok h1 (show n ≤ 1000000 by omega); omega
  · have := fl_ok (n := 16) (by omega) (by omega); omega
  · rw [fl_val h1 (by omega), fl_val (by omega) (by omega)]; exact Nat.mul_le_mul_right _ h2
end Go.Proofs.Ytpnpfapdjdcnbaa.Fl
