/- Floats of 64 bits by their words: what is read, compared, multiplied, rounded. No condition. -/
import Ieee.Arith
import Derived.Laws.FloatArith
set_option linter.unusedVariables false
set_option linter.unusedSimpArgs false
namespace Go.Proofs.Ytpnpfapdjdcnbaa.Fl
open Ieee
theorem dB : double.binade = 4503599627370496 := by decide +kernel
theorem dI : double.infRung = 9218868437227405312 := by decide +kernel
theorem dS : double.signWeight = 9223372036854775808 := by decide +kernel
theorem dL : double.leastPlace = -1074 := by decide +kernel
theorem dF : double.fractionBits = 52 := rfl
/-- What a word stands for, in units of the least place. -/
def val (x : Nat) : Nat := (4503599627370496 + x % 4503599627370496) * 2 ^ (x / 4503599627370496 - 1)
theorem val_of {x e f : Nat} (h : x / 4503599627370496 - 1 = e) (hf : 4503599627370496 + x % 4503599627370496 = f) : val x = f * 2 ^ e := by unfold val; rw [h, hf]
/-- Great powers, not to be computed. -/
theorem pows : ∃ Z : Nat, ∀ e d : Nat, e = 972 + d → (2 : Nat) ^ e = Z * 2 ^ d := ⟨2 ^ 972, fun e d h => by rw [h]; exact Nat.pow_add 2 972 d⟩
theorem val_shift {x d f Z : Nat} (hZ : ∀ e d : Nat, e = 972 + d → (2 : Nat) ^ e = Z * 2 ^ d) (h : x / 4503599627370496 = 973 + d) (hf : 4503599627370496 + x % 4503599627370496 = f) : val x = f * (Z * 2 ^ d) := by unfold val; rw [hf, hZ (x / 4503599627370496 - 1) d (by omega)]
theorem read_norm {x : Nat} (h1 : 4503599627370496 ≤ x) (h2 : x < 9218868437227405312) : double.read x = .number false (4503599627370496 + x % 4503599627370496) (-1075 + (x / 4503599627370496 : Nat)) := by
  unfold Format.read
  rw [dB, dI, dS, dL]
  have e1 : x / 9223372036854775808 = 0 := Nat.div_eq_of_lt (by omega)
  have e2 : x % 9223372036854775808 = x := Nat.mod_eq_of_lt (by omega)
  have e3 : ¬ x < 4503599627370496 := by omega
  simp only [e1, e2, if_neg e3, if_pos h2]
  have : 1 ≤ x / 4503599627370496 := by omega
  congr 1
  omega
theorem read_inf : double.read 9218868437227405312 = .infinity false := by decide +kernel
theorem shl (m k : Nat) : m <<< k = m * 2 ^ k := Nat.shiftLeft_eq m k
def cmpN (a b : Nat) : Ordering := if a < b then .lt else if a = b then .eq else .gt
theorem cmp_int (a b : Nat) : compare (a : Int) (b : Int) = cmpN a b := by
  show compareOfLessAndEq (a : Int) (b : Int) = _
  unfold compareOfLessAndEq cmpN
  by_cases h : a < b
  · rw [if_pos (by omega), if_pos h]
  · rw [if_neg (by omega), if_neg h]
    by_cases h2 : a = b
    · rw [if_pos (by omega), if_pos h2]
    · rw [if_neg (by omega), if_neg h2]
theorem cmpN_mul (a b k : Nat) (hk : 0 < k) : cmpN (a * k) (b * k) = cmpN a b := by
  unfold cmpN
  have h1 : (a * k < b * k) ↔ a < b := Nat.mul_lt_mul_right hk
  have h2 : (a * k = b * k) ↔ a = b := Nat.mul_left_inj (by omega)
  simp only [h1, h2]
theorem order_num {m n : Nat} {i j : Int} (hi : -1074 ≤ i) (hj : -1074 ≤ j) : Datum.order (.number false m i) (.number false n j) = some (cmpN (m * 2 ^ (i + 1074).toNat) (n * 2 ^ (j + 1074).toNat)) := by
  unfold Datum.order
  simp only [signed, Bool.false_eq_true, if_false, shl]
  rw [cmp_int]
  congr 1
  have hb : ∃ q : Nat, (min i j + 1074).toNat = q ∧ (i + 1074).toNat = (i - min i j).toNat + q ∧ (j + 1074).toNat = (j - min i j).toNat + q := ⟨_, rfl, by omega, by omega⟩
  obtain ⟨q, _, e1, e2⟩ := hb
  rw [e1, e2, Nat.pow_add, Nat.pow_add, ← Nat.mul_assoc, ← Nat.mul_assoc, cmpN_mul _ _ _ (Nat.two_pow_pos q)]
theorem order_norm {x y : Nat} (h1 : 4503599627370496 ≤ x) (h2 : x < 9218868437227405312) (h3 : 4503599627370496 ≤ y) (h4 : y < 9218868437227405312) : double.order x y = some (cmpN (val x) (val y)) := by
  unfold Format.order
  have : 1 ≤ x / 4503599627370496 := by omega
  have : 1 ≤ y / 4503599627370496 := by omega
  rw [read_norm h1 h2, read_norm h3 h4, order_num (by omega) (by omega)]
  unfold val
  rw [show (-1075 + ((x / 4503599627370496 : Nat) : Int) + 1074).toNat = x / 4503599627370496 - 1 by omega, show (-1075 + ((y / 4503599627370496 : Nat) : Int) + 1074).toNat = y / 4503599627370496 - 1 by omega]
theorem val_lt {x y : Nat} (h1 : 4503599627370496 ≤ x) (h : x < y) : val x < val y := by
  unfold val
  have h3 : 1 ≤ x / 4503599627370496 := by omega
  rcases Nat.lt_or_ge (x / 4503599627370496) (y / 4503599627370496) with h2 | h2
  · obtain ⟨d, hd⟩ : ∃ d, y / 4503599627370496 - 1 = x / 4503599627370496 - 1 + (d + 1) := ⟨y / 4503599627370496 - x / 4503599627370496 - 1, by omega⟩
    rw [hd, Nat.pow_add, Nat.pow_succ]
    have p := Nat.two_pow_pos (x / 4503599627370496 - 1)
    have p2 : 1 ≤ 2 ^ d := Nat.two_pow_pos d
    have : (4503599627370496 + y % 4503599627370496) * (2 ^ (x / 4503599627370496 - 1) * (2 ^ d * 2)) = ((4503599627370496 + y % 4503599627370496) * 2 ^ d * 2) * 2 ^ (x / 4503599627370496 - 1) := by
      simp only [Nat.mul_assoc, Nat.mul_comm, Nat.mul_left_comm]
    rw [this]
    refine Nat.mul_lt_mul_of_pos_right ?_ p
    have h5 : 4503599627370496 * 1 ≤ (4503599627370496 + y % 4503599627370496) * 2 ^ d := Nat.mul_le_mul (by omega) p2
    omega
  · have e : x / 4503599627370496 = y / 4503599627370496 := by omega
    rw [← e]
    refine Nat.mul_lt_mul_of_pos_right (by omega) (Nat.two_pow_pos _)
theorem order_words {x y : Nat} (h1 : 4503599627370496 ≤ x) (h2 : x < 9218868437227405312) (h3 : 4503599627370496 ≤ y) (h4 : y < 9218868437227405312) : double.order x y = some (cmpN x y) := by
  rw [order_norm h1 h2 h3 h4]
  congr 1
  unfold cmpN
  rcases Nat.lt_trichotomy x y with h | h | h
  · rw [if_pos (val_lt h1 h), if_pos h]
  · subst h; simp
  · have := val_lt h3 h
    rw [if_neg (by omega), if_neg (by omega), if_neg (by omega), if_neg (by omega)]

theorem log_le {n : Nat} (h : n ≠ 0) : 2 ^ n.log2 ≤ n := Nat.log2_self_le h
theorem lt_log {n : Nat} : n < 2 ^ (n.log2 + 1) := Nat.lt_log2_self
theorem log_eq {n k : Nat} (h1 : 2 ^ k ≤ n) (h2 : n < 2 ^ (k + 1)) : n.log2 = k := by
  have h : n ≠ 0 := by have := Nat.two_pow_pos k; omega
  have a := (Nat.le_log2 h).2 h1
  have b := (Nat.log2_lt h).2 h2
  omega
/-- The digits that are kept of m: 53 of them, or one carry more. -/
def kept (m : Nat) : Nat := if m.log2 ≤ 52 then m * 2 ^ (52 - m.log2) else Toward.even.cut false m (m.log2 - 52)
theorem cut_zero (way : Toward) (n : Nat) : way.cut false n 0 = n := by
  unfold Toward.cut
  simp [shl, Nat.mod_one]
  cases way <;> simp
/-- What is rounded to the nearest. -/
theorem cut_val (n d : Nat) (hd : d ≤ n.log2 + 2) : Toward.even.cut false n d = n / 2 ^ d + (if 2 ^ d < 2 * (n % 2 ^ d) ∨ (2 ^ d = 2 * (n % 2 ^ d) ∧ n / 2 ^ d % 2 = 1) then 1 else 0) := by
  unfold Toward.cut
  simp only [shl, Nat.min_eq_left hd, Nat.one_mul]
  congr 1
  by_cases h : 2 ^ d < 2 * (n % 2 ^ d)
  · simp [h]
  · by_cases h2 : 2 ^ d = 2 * (n % 2 ^ d)
    · by_cases h3 : n / 2 ^ d % 2 = 1
      · rw [if_pos (.inr ⟨h2, h3⟩)]
        have hb : (2 ^ d == 2 * (n % 2 ^ d)) = true := beq_iff_eq.2 h2
        have hc : (n / 2 ^ d % 2 == 1) = true := beq_iff_eq.2 h3
        rw [hb, hc]; simp
      · rw [if_neg (by omega)]
        have hc : (n / 2 ^ d % 2 == 1) = false := beq_eq_false_iff_ne.2 h3
        rw [hc, decide_eq_false h]; simp
    · rw [if_neg (by omega)]
      have hb : (2 ^ d == 2 * (n % 2 ^ d)) = false := beq_eq_false_iff_ne.2 h2
      rw [hb, decide_eq_false h]; simp
theorem kept_ge {m : Nat} (hm : m ≠ 0) : 4503599627370496 ≤ kept m := by
  have h1 := log_le hm
  unfold kept
  split
  · rename_i h
    have : 2 ^ m.log2 * 2 ^ (52 - m.log2) ≤ m * 2 ^ (52 - m.log2) := Nat.mul_le_mul_right _ h1
    rw [← Nat.pow_add, show m.log2 + (52 - m.log2) = 52 by omega] at this
    exact this
  · rename_i h
    rw [cut_val _ _ (by omega)]
    have : 2 ^ 52 * 2 ^ (m.log2 - 52) ≤ m := by rw [← Nat.pow_add, show 52 + (m.log2 - 52) = m.log2 by omega]; exact h1
    have := (Nat.le_div_iff_mul_le (Nat.two_pow_pos (m.log2 - 52))).2 this
    have e : (2 : Nat) ^ 52 = 4503599627370496 := by decide +kernel
    omega
theorem kept_le {m : Nat} (hm : m ≠ 0) : kept m ≤ 2 * 4503599627370496 := by
  have h1 := @lt_log m
  unfold kept
  split
  · rename_i h
    have : m * 2 ^ (52 - m.log2) < 2 ^ (m.log2 + 1) * 2 ^ (52 - m.log2) := Nat.mul_lt_mul_of_pos_right h1 (Nat.two_pow_pos _)
    rw [← Nat.pow_add, show m.log2 + 1 + (52 - m.log2) = 53 by omega] at this
    have e : (2 : Nat) ^ 53 = 2 * 4503599627370496 := by decide +kernel
    omega
  · rename_i h
    rw [cut_val _ _ (by omega)]
    have : m < 2 ^ 53 * 2 ^ (m.log2 - 52) := by rw [← Nat.pow_add, show 53 + (m.log2 - 52) = m.log2 + 1 by omega]; exact h1
    have := (Nat.div_lt_iff_lt_mul (Nat.two_pow_pos (m.log2 - 52))).2 this
    have e : (2 : Nat) ^ 53 = 2 * 4503599627370496 := by decide +kernel
    split <;> omega
theorem near_norm {m : Nat} (hm : m ≠ 0) {p : Int} (hp : -1022 ≤ p + m.log2) : double.nearest false m p = min ((p + m.log2 + 1022).toNat * 4503599627370496 + kept m) 9218868437227405312 := by
  unfold Format.nearest
  rw [if_neg hm]
  simp only [dB, dI, dL, dF, Format.word, Bool.false_eq_true, if_false]
  have e : max (p + (m.log2 : Int) - (52 : Nat)) (-1074) = p + m.log2 - 52 := by omega
  rw [e, show (p + (m.log2 : Int) - 52 - -1074).toNat = (p + m.log2 + 1022).toNat by omega]
  congr 2
  unfold kept
  split
  · rename_i h
    rw [show (p + (m.log2 : Int) - 52 - p).toNat = 0 by omega, cut_zero, shl, show (p - (p + (m.log2 : Int) - 52)).toNat = 52 - m.log2 by omega]
  · rename_i h
    rw [show (p - (p + (m.log2 : Int) - 52)).toNat = 0 by omega, show (p + (m.log2 : Int) - 52 - p).toNat = m.log2 - 52 by omega, shl, Nat.pow_zero, Nat.mul_one]
/-- A number of at most 53 digits, written and read. -/
theorem near_exact {m : Nat} (hm : m ≠ 0) (hb : m.log2 ≤ 52) {p : Int} (h1 : -1022 ≤ p + m.log2) (h2 : p + m.log2 ≤ 1023) : ∃ x, double.nearest false m p = x ∧ 4503599627370496 ≤ x ∧ x < 9218868437227405312 ∧ x / 4503599627370496 = (p + m.log2 + 1023).toNat ∧ 4503599627370496 + x % 4503599627370496 = m * 2 ^ (52 - m.log2) ∧ val x = m * 2 ^ (p + 1074).toNat := by
  have a := near_norm hm h1
  have k1 := kept_ge hm
  have k2 : kept m < 2 * 4503599627370496 := by
    unfold kept; rw [if_pos hb]
    have : m * 2 ^ (52 - m.log2) < 2 ^ (m.log2 + 1) * 2 ^ (52 - m.log2) := Nat.mul_lt_mul_of_pos_right lt_log (Nat.two_pow_pos _)
    rw [← Nat.pow_add, show m.log2 + 1 + (52 - m.log2) = 53 by omega] at this
    have e : (2 : Nat) ^ 53 = 2 * 4503599627370496 := by decide +kernel
    omega
  have hk : kept m = m * 2 ^ (52 - m.log2) := by unfold kept; rw [if_pos hb]
  obtain ⟨q, hq⟩ : ∃ q : Nat, (p + m.log2 + 1022).toNat = q := ⟨_, rfl⟩
  rw [hq] at a
  have hq2 : q ≤ 2045 := by omega
  refine ⟨_, a, ?_⟩
  rw [Nat.min_eq_left (by omega)]
  have d1 : (q * 4503599627370496 + kept m) / 4503599627370496 = q + 1 := by omega
  have d2 : 4503599627370496 + (q * 4503599627370496 + kept m) % 4503599627370496 = kept m := by omega
  refine ⟨by omega, by omega, by omega, by rw [d2, hk], ?_⟩
  unfold val
  rw [d1, d2, hk, Nat.mul_assoc, ← Nat.pow_add]
  congr 2
  omega

/-- At least 1 (infinity too). -/
def right (x : Nat) : Prop := 4607182418800017408 ≤ x ∧ x ≤ 9218868437227405312
instance (x : Nat) : Decidable (right x) := inferInstanceAs (Decidable (_ ∧ _))
theorem read_neg {x : Nat} (h1 : 9223372036854775808 ≤ x) (h2 : x < 2 * 9223372036854775808) : (∃ m i, double.read x = .number true m i ∧ -1074 ≤ i) ∨ double.read x = .infinity true ∨ ∃ t, double.read x = .nan true t := by
  unfold Format.read
  rw [dB, dI, dS, dL]
  have e1 : x / 9223372036854775808 = 1 := by omega
  simp only [e1]
  split
  · exact .inl ⟨_, _, rfl, by omega⟩
  · split
    · exact .inl ⟨_, _, rfl, by omega⟩
    · split
      · exact .inr (.inl rfl)
      · exact .inr (.inr ⟨_, rfl⟩)
theorem read_sub {x : Nat} (h : x < 4503599627370496) : double.read x = .number false x (-1074) := by
  unfold Format.read
  rw [dB, dI, dS, dL]
  have e1 : x / 9223372036854775808 = 0 := Nat.div_eq_of_lt (by omega)
  have e2 : x % 9223372036854775808 = x := Nat.mod_eq_of_lt (by omega)
  simp only [e1, e2, if_pos h]
  rfl
theorem read_nan {x : Nat} (h : 9218868437227405312 < x) (h2 : x < 9223372036854775808) : ∃ t, double.read x = .nan false t := by
  unfold Format.read
  rw [dB, dI, dS, dL]
  have e1 : x / 9223372036854775808 = 0 := Nat.div_eq_of_lt (by omega)
  have e2 : x % 9223372036854775808 = x := Nat.mod_eq_of_lt (by omega)
  have e3 : ¬ x < 4503599627370496 := by omega
  have e4 : ¬ x < 9218868437227405312 := by omega
  have e5 : ¬ x = 9218868437227405312 := by omega
  simp only [e1, e2, if_neg e3, if_neg e4, if_neg e5]
  exact ⟨_, rfl⟩
theorem read_right {x : Nat} (h : right x) : (x < 9218868437227405312 ∧ double.read x = .number false (4503599627370496 + x % 4503599627370496) (-1075 + (x / 4503599627370496 : Nat))) ∨ (x = 9218868437227405312 ∧ double.read x = .infinity false) := by
  obtain ⟨h1, h2⟩ := h
  rcases Nat.lt_or_ge x 9218868437227405312 with h3 | h3
  · exact .inl ⟨h3, read_norm (by omega) h3⟩
  · have : x = 9218868437227405312 := by omega
    subst this
    exact .inr ⟨rfl, read_inf⟩
theorem order_right {x y : Nat} (hx : right x) (hy : right y) : double.order x y = some (cmpN x y) := by
  rcases Nat.lt_or_ge x 9218868437227405312 with h1 | h1
  · rcases Nat.lt_or_ge y 9218868437227405312 with h2 | h2
    · exact order_words (by have := hx.1; omega) h1 (by have := hy.1; omega) h2
    · have e : y = 9218868437227405312 := by have := hy.2; omega
      subst e
      unfold Format.order
      rw [read_norm (by have := hx.1; omega) h1, read_inf]
      unfold cmpN
      rw [if_pos h1]
      rfl
  · have e : x = 9218868437227405312 := by have := hx.2; omega
    subst e
    rcases Nat.lt_or_ge y 9218868437227405312 with h2 | h2
    · unfold Format.order
      rw [read_norm (by have := hy.1; omega) h2, read_inf]
      unfold cmpN
      rw [if_neg (by omega), if_neg (by omega)]
      rfl
    · have e : y = 9218868437227405312 := by have := hy.2; omega
      subst e
      unfold Format.order
      rw [read_inf]
      rfl
/-- x ≥ y, of a right y. -/
theorem ge_right {x y : Nat} (hx : x < 2 * 9223372036854775808) (hy : right y) (hy2 : y < 9218868437227405312) : (double.order x y == some .gt || double.order x y == some .eq) = decide (right x ∧ y ≤ x) := by
  by_cases h : right x
  · rw [order_right h hy]
    unfold cmpN
    rcases Nat.lt_trichotomy x y with h2 | h2 | h2
    · rw [if_pos h2, decide_eq_false (by omega)]; rfl
    · subst h2; simp [h]
    · rw [if_neg (by omega), if_neg (by omega), decide_eq_true ⟨h, by omega⟩]; rfl
  · rw [decide_eq_false (fun h2 => h h2.1)]
    have ry := read_norm (x := y) (by have := hy.1; omega) hy2
    have hy1 := hy.1
    have : 1023 ≤ y / 4503599627370496 := by omega
    unfold right at h
    rcases Nat.lt_or_ge x 9223372036854775808 with h1 | h1
    · rcases Nat.lt_or_ge x 4503599627370496 with h2 | h2
      · unfold Format.order
        rw [ry, read_sub h2, order_num (by omega) (by omega)]
        unfold cmpN
        rw [if_pos ?_]
        · rfl
        · have p : 1 ≤ 2 ^ (-1075 + ((y / 4503599627370496 : Nat) : Int) + 1074).toNat := Nat.two_pow_pos _
          have q := Nat.mul_le_mul (Nat.le_refl (4503599627370496 + y % 4503599627370496)) p
          simp only [show ((-1074 : Int) + 1074).toNat = 0 from rfl, Nat.pow_zero, Nat.mul_one] at q ⊢
          omega
      · rcases Nat.lt_or_ge x 9218868437227405312 with h3 | h3
        · rw [order_words h2 h3 (by omega) hy2]
          unfold cmpN
          rw [if_pos (by omega)]; rfl
        · obtain ⟨t, ht⟩ := read_nan (x := x) (by omega) h1
          unfold Format.order
          rw [ht]; rfl
    · unfold Format.order
      rw [ry]
      rcases read_neg h1 hx with ⟨m, i, e, hi⟩ | e | ⟨t, e⟩
      · rw [e]
        unfold Datum.order
        simp only [signed, Bool.false_eq_true, if_false, if_true, shl]
        have p := Nat.two_pow_pos (-1075 + ((y / 4503599627370496 : Nat) : Int) - min i (-1075 + ((y / 4503599627370496 : Nat) : Int))).toNat
        have q : 0 < (4503599627370496 + y % 4503599627370496) * 2 ^ (-1075 + ((y / 4503599627370496 : Nat) : Int) - min i (-1075 + ((y / 4503599627370496 : Nat) : Int))).toNat := Nat.mul_pos (by omega) p
        generalize (4503599627370496 + y % 4503599627370496) * 2 ^ (-1075 + ((y / 4503599627370496 : Nat) : Int) - min i (-1075 + ((y / 4503599627370496 : Nat) : Int))).toNat = Z at q ⊢
        generalize m * 2 ^ (i - min i (-1075 + ((y / 4503599627370496 : Nat) : Int))).toNat = M
        have : compare (-(M : Int)) (Z : Int) = .lt := by
          show compareOfLessAndEq (-(M : Int)) (Z : Int) = _
          unfold compareOfLessAndEq
          rw [if_pos (by omega)]
        rw [this]; rfl
      · rw [e]; rfl
      · rw [e]; rfl
theorem same_right {x : Nat} (hx : right x) : (double.order x x != some .eq) = false := by
  rw [order_right hx hx]; unfold cmpN; simp
/-! ### 128 times a float, as a whole number -/
def rndF (x : Nat) : Nat := Toward.even.cut false (4503599627370496 + x % 4503599627370496) (1068 - x / 4503599627370496)
theorem mul_128 {x : Nat} (h1 : 4607182418800017408 ≤ x) (h2 : x < 9299933811219300352 ∧ x + 7 * 4503599627370496 < 9218868437227405312) : double.mul x 4638707616191610880 = some (x + 7 * 4503599627370496) := by
  unfold Format.mul
  rw [read_norm (by omega) (by omega), read_norm (x := 4638707616191610880) (by omega) (by omega)]
  show some (double.nearest _ _ _) = _
  congr 1
  have hl : ((4503599627370496 + x % 4503599627370496) * (4503599627370496 + 4638707616191610880 % 4503599627370496)).log2 = 104 := log_eq (by
    have e : (2 : Nat) ^ 104 = 4503599627370496 * 4503599627370496 := by decide +kernel
    rw [e]; exact Nat.mul_le_mul (by omega) (by omega)) (by
    have e : (2 : Nat) ^ (104 + 1) = (2 * 4503599627370496) * 4503599627370496 := by decide +kernel
    rw [e, show 4503599627370496 + 4638707616191610880 % 4503599627370496 = 4503599627370496 from rfl]
    exact Nat.mul_lt_mul_of_pos_right (by omega) (by omega))
  have hm : (4503599627370496 + x % 4503599627370496) * (4503599627370496 + 4638707616191610880 % 4503599627370496) ≠ 0 := Nat.mul_ne_zero (by omega) (by omega)
  show double.nearest (false ^^ false) _ _ = _
  rw [show (false ^^ false) = false from rfl, near_norm hm (by omega), hl]
  have hk : kept ((4503599627370496 + x % 4503599627370496) * (4503599627370496 + 4638707616191610880 % 4503599627370496)) = 4503599627370496 + x % 4503599627370496 := by
    unfold kept
    rw [hl, if_neg (by omega), cut_val _ _ (by omega)]
    have e : (2 : Nat) ^ (104 - 52) = 4503599627370496 := by decide +kernel
    rw [e, show 4503599627370496 + 4638707616191610880 % 4503599627370496 = 4503599627370496 from rfl, Nat.mul_div_cancel _ (by omega), Nat.mul_mod_left, if_neg (by omega), Nat.add_zero]
  rw [hk]
  have : 1023 ≤ x / 4503599627370496 := by omega
  have e2 : (-1075 + ((x / 4503599627370496 : Nat) : Int) + (-1075 + ((4638707616191610880 / 4503599627370496 : Nat) : Int)) + (104 : Nat) + 1022).toNat = x / 4503599627370496 + 6 := by
    have : (4638707616191610880 / 4503599627370496 : Nat) = 1030 := rfl
    omega
  rw [e2]
  omega
theorem int_128 {x : Nat} (h1 : 4607182418800017408 ≤ x) (h2 : x < 4647714815446351872) : Datum.integral .even (double.read (x + 7 * 4503599627370496)) = .number false (rndF x) 0 := by
  rw [read_norm (by omega) (by omega)]
  unfold Datum.integral rndF
  simp only
  have e1 : (x + 7 * 4503599627370496) % 4503599627370496 = x % 4503599627370496 := by omega
  have e2 : (x + 7 * 4503599627370496) / 4503599627370496 = x / 4503599627370496 + 7 := by omega
  have e3 : 1023 ≤ x / 4503599627370496 ∧ x / 4503599627370496 < 1032 := by omega
  rw [e1, e2, show (-1075 + ((x / 4503599627370496 + 7 : Nat) : Int)).toNat = 0 by omega, show (-(-1075 + ((x / 4503599627370496 + 7 : Nat) : Int))).toNat = 1068 - x / 4503599627370496 by omega, shl, Nat.pow_zero, Nat.mul_one]
theorem log_52 {f : Nat} (hf : f < 4503599627370496) : (4503599627370496 + f).log2 = 52 := by
  have e : (2 : Nat) ^ 52 = 4503599627370496 := by decide +kernel
  have e2 : (2 : Nat) ^ (52 + 1) = 2 * 4503599627370496 := by decide +kernel
  exact log_eq (by omega) (by omega)
theorem rnd_val {x : Nat} (h1 : 4607182418800017408 ≤ x) (h2 : x < 4647714815446351872) : rndF x = (4503599627370496 + x % 4503599627370496) / 2 ^ (1068 - x / 4503599627370496) + (if 2 ^ (1068 - x / 4503599627370496) < 2 * ((4503599627370496 + x % 4503599627370496) % 2 ^ (1068 - x / 4503599627370496)) ∨ (2 ^ (1068 - x / 4503599627370496) = 2 * ((4503599627370496 + x % 4503599627370496) % 2 ^ (1068 - x / 4503599627370496)) ∧ (4503599627370496 + x % 4503599627370496) / 2 ^ (1068 - x / 4503599627370496) % 2 = 1) then 1 else 0) := by
  unfold rndF
  refine cut_val _ _ ?_
  rw [log_52 (Nat.mod_lt _ (by omega))]
  omega
theorem rnd_range {x : Nat} (h1 : 4607182418800017408 ≤ x) (h2 : x < 4647714815446351872) : 2 ^ (x / 4503599627370496 - 1016) ≤ (4503599627370496 + x % 4503599627370496) / 2 ^ (1068 - x / 4503599627370496) ∧ (4503599627370496 + x % 4503599627370496) / 2 ^ (1068 - x / 4503599627370496) + 1 ≤ 2 ^ (x / 4503599627370496 - 1015) := by
  have hE : 1023 ≤ x / 4503599627370496 ∧ x / 4503599627370496 < 1032 := by omega
  have e : (2 : Nat) ^ 52 = 4503599627370496 := by decide +kernel
  have e' : (2 : Nat) ^ 53 = 2 * 4503599627370496 := by decide +kernel
  have p := Nat.two_pow_pos (1068 - x / 4503599627370496)
  constructor
  · refine (Nat.le_div_iff_mul_le p).2 ?_
    rw [← Nat.pow_add, show x / 4503599627370496 - 1016 + (1068 - x / 4503599627370496) = 52 by omega]
    omega
  · refine (Nat.div_lt_iff_lt_mul p).2 ?_
    rw [← Nat.pow_add, show x / 4503599627370496 - 1015 + (1068 - x / 4503599627370496) = 53 by omega]
    omega
theorem rnd_bounds {x : Nat} (h1 : 4607182418800017408 ≤ x) (h2 : x < 4647714815446351872) : 2 ^ (x / 4503599627370496 - 1016) ≤ rndF x ∧ rndF x ≤ 2 ^ (x / 4503599627370496 - 1015) := by
  have := rnd_range h1 h2
  rw [rnd_val h1 h2]
  split <;> omega
theorem rnd_mono {x y : Nat} (h1 : 4607182418800017408 ≤ x) (h : x ≤ y) (h2 : y < 4647714815446351872) : rndF x ≤ rndF y := by
  rcases Nat.lt_or_ge (x / 4503599627370496) (y / 4503599627370496) with h3 | h3
  · have a := (rnd_bounds h1 (by omega)).2
    have b := (rnd_bounds (x := y) (by omega) h2).1
    have : 2 ^ (x / 4503599627370496 - 1015) ≤ 2 ^ (y / 4503599627370496 - 1016) := Nat.pow_le_pow_right (by omega) (by omega)
    omega
  · have e : y / 4503599627370496 = x / 4503599627370496 := by omega
    rw [rnd_val h1 (by omega), rnd_val (by omega) h2, e]
    have hm : 4503599627370496 + x % 4503599627370496 ≤ 4503599627370496 + y % 4503599627370496 := by omega
    generalize 4503599627370496 + x % 4503599627370496 = m at *
    generalize 4503599627370496 + y % 4503599627370496 = n at *
    have p := Nat.two_pow_pos (1068 - x / 4503599627370496)
    generalize 2 ^ (1068 - x / 4503599627370496) = G at *
    have q := Nat.div_le_div_right (c := G) hm
    have a1 := Nat.div_add_mod m G
    have a2 := Nat.div_add_mod n G
    rcases Nat.lt_or_eq_of_le q with q | q
    · split <;> split <;> omega
    · rw [q] at a1 ⊢
      split <;> split <;> omega
theorem rnd_small {x : Nat} (h1 : 4607182418800017408 ≤ x) (h2 : x < 4647714815446351872) : 128 ≤ rndF x ∧ rndF x ≤ 65536 := by
  have a := rnd_bounds h1 h2
  have b : 2 ^ 7 ≤ 2 ^ (x / 4503599627370496 - 1016) := Nat.pow_le_pow_right (by omega) (by omega)
  have c : 2 ^ (x / 4503599627370496 - 1015) ≤ 2 ^ 16 := Nat.pow_le_pow_right (by omega) (by omega)
  omega
/-- 1, in units of the least place. -/
def U : Nat := 2 ^ ((0 : Int) + 1074).toNat
/-- A whole number, written and read. -/
theorem int_word {n : Nat} (hn : n ≠ 0) (hl : n < 9007199254740992) : ∃ x, double.nearest false n 0 = x ∧ 4503599627370496 ≤ x ∧ x < 9218868437227405312 ∧ double.read x = .number false (n * 2 ^ (52 - n.log2)) (n.log2 - 52 : Int) ∧ val x = n * U ∧ n.log2 ≤ 52 ∧ 4607182418800017408 ≤ x := by
  have hb : n.log2 ≤ 52 := by
    have e : (2 : Nat) ^ 53 = 9007199254740992 := by decide +kernel
    have := (Nat.log2_lt hn).2 (by rw [e]; exact hl)
    omega
  obtain ⟨x, a, b, c, d, e, f⟩ := near_exact hn hb (p := 0) (by omega) (by omega)
  have g1 : 4607182418800017408 ≤ x := by clear f e a; omega
  have g2 : double.read x = .number false (n * 2 ^ (52 - n.log2)) (n.log2 - 52 : Int) := by
    clear f
    have h9 : (-1075 + ((x / 4503599627370496 : Nat) : Int)) = n.log2 - 52 := by omega
    rw [read_norm b c, e, h9]
  exact ⟨x, a, b, c, g2, f, hb, g1⟩
theorem toInt_word {n : Nat} (hn : n ≠ 0) (hl : n < 9007199254740992) : (double.read (double.nearest false n 0)).toInt .zero = some (n : Int) := by
  obtain ⟨x, a, b, c, d, e, f, _⟩ := int_word hn hl
  rw [a, d]
  unfold Datum.toInt Datum.integral
  simp only
  have hm : (n * 2 ^ (52 - n.log2)).log2 = 52 := log_eq (by
      have := Nat.mul_le_mul_right (2 ^ (52 - n.log2)) (log_le hn)
      rw [← Nat.pow_add, show n.log2 + (52 - n.log2) = 52 by omega] at this
      exact this) (by
      have := Nat.mul_lt_mul_of_pos_right (@lt_log n) (Nat.two_pow_pos (52 - n.log2))
      rw [← Nat.pow_add, show n.log2 + 1 + (52 - n.log2) = 52 + 1 by omega] at this
      exact this)
  rw [show ((n.log2 : Int) - 52).toNat = 0 by omega, show (-((n.log2 : Int) - 52)).toNat = 52 - n.log2 by omega, shl, Nat.pow_zero, Nat.mul_one]
  unfold Toward.cut
  simp only [hm, shl, Nat.min_eq_left (show 52 - n.log2 ≤ 52 + 2 by omega), Nat.one_mul, Nat.mul_div_cancel _ (Nat.two_pow_pos (52 - n.log2)), signed]
  simp

theorem word_one {x : Nat} (h : 4503599627370496 ≤ x ∧ x < 9218868437227405312) : right x ↔ 4607182418800017408 ≤ x := ⟨fun h2 => h2.1, fun h2 => ⟨h2, by omega⟩⟩
/-- 128 times a float, cut to a whole number. -/
def NF (x : Nat) : Nat := (4503599627370496 + x % 4503599627370496) / 2 ^ (1068 - x / 4503599627370496)
theorem U_eq {E : Nat} (h : E ≤ 1068) : U = 2 ^ (1068 - E) * 2 ^ (E + 6) := by
  unfold U
  rw [← Nat.pow_add]
  congr 1
  omega
theorem leq_int {x m : Nat} (h1 : 4607182418800017408 ≤ x) (h2 : x < 4647714815446351872) (hm : m ≠ 0) (hl : m < 9007199254740992) : (double.order (double.nearest false m 0) (x + 7 * 4503599627370496) == some .lt || double.order (double.nearest false m 0) (x + 7 * 4503599627370496) == some .eq) = decide (m ≤ NF x) := by
  obtain ⟨y, a, b, c, _, f, _, _⟩ := int_word hm hl
  rw [a, order_norm b c (by omega) (by omega), f]
  have hv : val (x + 7 * 4503599627370496) = (4503599627370496 + x % 4503599627370496) * 2 ^ (x / 4503599627370496 + 6) := by
    unfold val
    rw [show (x + 7 * 4503599627370496) % 4503599627370496 = x % 4503599627370496 by omega, show (x + 7 * 4503599627370496) / 4503599627370496 - 1 = x / 4503599627370496 + 6 by omega]
  rw [hv, U_eq (E := x / 4503599627370496) (by omega), ← Nat.mul_assoc, cmpN_mul _ _ _ (Nat.two_pow_pos _)]
  have hd : m ≤ NF x ↔ m * 2 ^ (1068 - x / 4503599627370496) ≤ 4503599627370496 + x % 4503599627370496 := Nat.le_div_iff_mul_le (Nat.two_pow_pos _)
  unfold cmpN
  rcases Nat.lt_trichotomy (m * 2 ^ (1068 - x / 4503599627370496)) (4503599627370496 + x % 4503599627370496) with h | h | h
  · rw [if_pos h, decide_eq_true (hd.2 (by omega))]; rfl
  · rw [if_neg (by omega), if_pos h, decide_eq_true (hd.2 (by omega))]; rfl
  · rw [if_neg (by omega), if_neg (by omega), decide_eq_false (fun h3 => by have := hd.1 h3; omega)]; rfl
theorem NF_bounds {x : Nat} (h1 : 4607182418800017408 ≤ x) (h2 : x < 4647714815446351872) : 128 ≤ NF x ∧ NF x < 65536 := by
  have a := rnd_range h1 h2
  have b : 2 ^ 7 ≤ 2 ^ (x / 4503599627370496 - 1016) := Nat.pow_le_pow_right (by omega) (by omega)
  have c : 2 ^ (x / 4503599627370496 - 1015) ≤ 2 ^ 16 := Nat.pow_le_pow_right (by omega) (by omega)
  unfold NF
  omega
theorem NF_log {x : Nat} (h1 : 4607182418800017408 ≤ x) (h2 : x < 4647714815446351872) : (NF x).log2 = x / 4503599627370496 - 1016 := by
  have a := rnd_range h1 h2
  exact log_eq a.1 (by rw [show x / 4503599627370496 - 1016 + 1 = x / 4503599627370496 - 1015 by omega]; unfold NF; omega)
/-- What is left of 128 times a float. -/
def RF (x : Nat) : Nat := (4503599627370496 + x % 4503599627370496) % 2 ^ (1068 - x / 4503599627370496)
theorem rnd_NF {x : Nat} (h1 : 4607182418800017408 ≤ x) (h2 : x < 4647714815446351872) : rndF x = NF x + (if 2 ^ (1068 - x / 4503599627370496) < 2 * RF x ∨ (2 ^ (1068 - x / 4503599627370496) = 2 * RF x ∧ NF x % 2 = 1) then 1 else 0) := rnd_val h1 h2
theorem near_zero (p : Int) : double.nearest false 0 p = 0 := by unfold Format.nearest; rw [if_pos rfl]; rfl
theorem sub_int {x : Nat} (h1 : 4607182418800017408 ≤ x) (h2 : x < 4647714815446351872) : ∃ r, double.sub (x + 7 * 4503599627370496) (double.nearest false (NF x) 0) = some r ∧ r < 9218868437227405312 ∧ (double.order r 4602678819172646912 == some .gt) = decide (2 ^ (1068 - x / 4503599627370496) < 2 * RF x) ∧ (double.order r 4602678819172646912 == some .eq) = decide (2 ^ (1068 - x / 4503599627370496) = 2 * RF x) := by
  have hN := NF_bounds h1 h2
  have hlg := NF_log h1 h2
  obtain ⟨y, a, b, c, d, f, g, _⟩ := int_word (n := NF x) (by omega) (by omega)
  have hE : 1023 ≤ x / 4503599627370496 ∧ x / 4503599627370496 < 1032 := by clear f; omega
  obtain ⟨E, hEq⟩ : ∃ E, x / 4503599627370496 = E := ⟨_, rfl⟩
  have hrd := read_norm (x := x + 7 * 4503599627370496) (by clear f; omega) (by clear f; omega)
  rw [show (x + 7 * 4503599627370496) % 4503599627370496 = x % 4503599627370496 by clear f; omega, show ((x + 7 * 4503599627370496) / 4503599627370496 : Nat) = E + 7 by clear f; omega] at hrd
  unfold RF
  rw [hEq] at hlg ⊢
  have hsum : (double.read (x + 7 * 4503599627370496)).sum (double.read y).opposite = some (.number false ((4503599627370496 + x % 4503599627370496) % 2 ^ (1068 - E)) ((E : Int) - 1068)) := by
    rw [hrd, d]
    unfold Datum.opposite Datum.sum
    simp only [signed, Bool.not_false, Bool.false_eq_true, if_false, if_true, shl, hlg]
    have hb : min (-1075 + ((E + 7 : Nat) : Int)) (((E - 1016 : Nat) : Int) - 52) = (E : Int) - 1068 := by clear f; omega
    rw [hb, show (-1075 + ((E + 7 : Nat) : Int) - ((E : Int) - 1068)).toNat = 0 by clear f; omega, show (((E - 1016 : Nat) : Int) - 52 - ((E : Int) - 1068)).toNat = 0 by clear f; omega, Nat.pow_zero, Nat.mul_one, Nat.mul_one, show 52 - (E - 1016) = 1068 - E by clear f; omega]
    have hdm := Nat.div_add_mod (4503599627370496 + x % 4503599627370496) (2 ^ (1068 - E))
    have hNF : NF x = (4503599627370496 + x % 4503599627370496) / 2 ^ (1068 - E) := by unfold NF; rw [hEq]
    rw [← hNF, Nat.mul_comm] at hdm
    have ht : ((4503599627370496 + x % 4503599627370496 : Nat) : Int) + -((NF x * 2 ^ (1068 - E) : Nat) : Int) = (((4503599627370496 + x % 4503599627370496) % 2 ^ (1068 - E) : Nat) : Int) := by clear f; omega
    rw [ht]
    have hs : ∀ r : Nat, (if ((r : Nat) : Int) = 0 then false && true else decide ((r : Int) < 0)) = false := fun r => by
      by_cases hz : (r : Int) = 0
      · rw [if_pos hz]; rfl
      · rw [if_neg hz]; exact decide_eq_false (by clear f; omega)
    rw [Int.natAbs_natCast]
    exact congrArg (fun b => some (Datum.number b ((4503599627370496 + x % 4503599627370496) % 2 ^ (1068 - E)) ((E : Int) - 1068))) (hs _)
  have hsub : double.sub (x + 7 * 4503599627370496) (double.nearest false (NF x) 0) = some (double.nearest false ((4503599627370496 + x % 4503599627370496) % 2 ^ (1068 - E)) ((E : Int) - 1068)) := by
    unfold Format.sub
    rw [a, hsum]; rfl
  rw [hsub]
  have hp := Nat.two_pow_pos (1068 - E)
  have hlt := Nat.mod_lt (4503599627370496 + x % 4503599627370496) hp
  have hG : 2 ^ (1068 - E) ≤ 2 ^ 45 := Nat.pow_le_pow_right (by omega) (by clear f; omega)
  have hG2 : 2 ^ (1068 - E) = 2 * 2 ^ (1067 - E) := by rw [show 1068 - E = (1067 - E) + 1 by clear f; omega, Nat.pow_succ, Nat.mul_comm]
  by_cases hz : (4503599627370496 + x % 4503599627370496) % 2 ^ (1068 - E) = 0
  · rw [hz]
    rw [near_zero]
    refine ⟨_, rfl, by decide +kernel, ?_, ?_⟩
    · rw [decide_eq_false (by clear f; omega)]; decide +kernel
    · rw [decide_eq_false (by clear f; omega)]; decide +kernel
  · have hlg2 : ((4503599627370496 + x % 4503599627370496) % 2 ^ (1068 - E)).log2 < 45 := (Nat.log2_lt hz).2 (by clear f; omega)
    obtain ⟨r, a2, b2, c2, _, _, f2⟩ := near_exact hz (p := (E : Int) - 1068) (by clear f; omega) (by clear f; omega) (by clear f; omega)
    refine ⟨r, by rw [a2], c2, ?_⟩
    rw [order_norm b2 c2 (by decide) (by decide), f2, show ((E : Int) - 1068 + 1074).toNat = E + 6 by clear f f2; omega]
    have hh : val 4602678819172646912 = 2 ^ (1067 - E) * 2 ^ (E + 6) := by
      obtain ⟨Z, hZ⟩ := pows
      rw [val_shift (x := 4602678819172646912) (d := 49) hZ (by decide +kernel) rfl, ← Nat.pow_add, hZ (1067 - E + (E + 6)) 101 (by clear f f2; omega)]
      clear f f2
      omega
    rw [hh, cmpN_mul _ _ _ (Nat.two_pow_pos _)]
    clear f f2
    unfold cmpN
    generalize (4503599627370496 + x % 4503599627370496) % 2 ^ (1068 - E) = r0 at *
    generalize 2 ^ (1067 - E) = H at *
    rw [hG2]
    rcases Nat.lt_trichotomy r0 H with h | h | h
    · rw [if_pos h, decide_eq_false (by omega), decide_eq_false (by omega)]; exact ⟨rfl, rfl⟩
    · rw [if_neg (by omega), if_pos h, decide_eq_false (by omega), decide_eq_true (by omega)]; exact ⟨rfl, rfl⟩
    · rw [if_neg (by omega), if_neg (by omega), decide_eq_true (by omega), decide_eq_false (by omega)]; exact ⟨rfl, rfl⟩
/-- A quotient by a power of two. -/
theorem div_pow {x k : Nat} (h1 : (k + 1) * 4503599627370496 ≤ x) (h2 : x < 9218868437227405312) (hk : k < 1000) : double.div x ((1023 + k) * 4503599627370496) = some (x - k * 4503599627370496) := by
  unfold Format.div
  have hx : k + 1 ≤ x / 4503599627370496 := by omega
  rw [read_norm (by omega) h2, read_norm (x := (1023 + k) * 4503599627370496) (by omega) (by omega)]
  rw [show (1023 + k) * 4503599627370496 % 4503599627370496 = 0 by omega, show ((1023 + k) * 4503599627370496 / 4503599627370496 : Nat) = 1023 + k by omega]
  unfold Datum.quotient
  simp only [Nat.add_zero]
  rw [if_neg (by omega)]
  have l1 : (4503599627370496 + x % 4503599627370496).log2 = 52 := log_52 (Nat.mod_lt _ (by omega))
  have l2 : (4503599627370496 : Nat).log2 = 52 := log_52 (f := 0) (by omega)
  rw [l1, l2, dF]
  have e : (2 : Nat) ^ (52 + 2 + 52 - 52) = 4 * 4503599627370496 := by decide +kernel
  rw [shl, e, show (4503599627370496 + x % 4503599627370496) * (4 * 4503599627370496) = (4 * (4503599627370496 + x % 4503599627370496)) * 4503599627370496 by omega, Nat.mul_div_cancel _ (by omega), Nat.mul_mod_left]
  show some (double.nearest (false ^^ false) _ _) = _
  rw [show (false ^^ false) = false from rfl]
  clear e l2
  have hz : 2 * (4 * (4503599627370496 + x % 4503599627370496)) + ((0 : Nat) != 0).toNat = 8 * (4503599627370496 + x % 4503599627370496) := by
    show 2 * (4 * (4503599627370496 + x % 4503599627370496)) + 0 = _
    rw [Nat.add_zero, ← Nat.mul_assoc]
  rw [hz]
  have hm1 : 4503599627370496 ≤ 4503599627370496 + x % 4503599627370496 := Nat.le_add_right _ _
  have hm2 : 4503599627370496 + x % 4503599627370496 < 2 * 4503599627370496 := by have := Nat.mod_lt x (show 0 < 4503599627370496 by decide); omega
  have hxm : x = x / 4503599627370496 * 4503599627370496 + ((4503599627370496 + x % 4503599627370496) - 4503599627370496) := by omega
  clear hz
  generalize 4503599627370496 + x % 4503599627370496 = m at *
  generalize x / 4503599627370496 = E at *
  have hl : (8 * m).log2 = 55 := by
    have e1 : (2 : Nat) ^ 55 = 8 * 4503599627370496 := by decide +kernel
    have e2 : (2 : Nat) ^ (55 + 1) = 8 * (2 * 4503599627370496) := by decide +kernel
    refine log_eq ?_ ?_
    · rw [e1]; exact Nat.mul_le_mul_left 8 hm1
    · rw [e2]; exact Nat.mul_lt_mul_of_pos_left hm2 (by decide)
  rw [near_norm (by omega) (by omega), hl]
  have hk : kept (8 * m) = m := by
    unfold kept
    rw [hl, if_neg (by omega), cut_val _ _ (by omega), show (2 : Nat) ^ (55 - 52) = 8 from rfl, if_neg (by omega)]
    omega
  rw [hk]
  congr 1
  omega
/-- A cost as a float. -/
theorem cost_float {c : Nat} (h1 : 128 ≤ c) (h2 : c < 65536) : ∃ z, double.div (double.nearest false c 0) 4638707616191610880 = some z ∧ 4607182418800017408 ≤ z ∧ z < 4647714815446351872 ∧ z + 7 * 4503599627370496 = double.nearest false c 0 ∧ rndF z = c := by
  obtain ⟨y, a, b, c', d, e, f⟩ := near_exact (m := c) (by omega) (by have := (Nat.log2_lt (n := c) (k := 16) (by omega)).2 (by omega); omega) (p := 0) (by omega) (by have := (Nat.log2_lt (n := c) (k := 16) (by omega)).2 (by omega); omega)
  clear f
  have hl1 : 7 ≤ c.log2 := (Nat.le_log2 (by omega)).2 (by omega)
  have hl2 : c.log2 < 16 := (Nat.log2_lt (by omega)).2 (by omega)
  have hd : y / 4503599627370496 = c.log2 + 1023 := by omega
  refine ⟨y - 7 * 4503599627370496, ?_, by omega, by omega, by omega, ?_⟩
  · rw [a]; exact div_pow (k := 7) (by omega) c' (by omega)
  · rw [rnd_val (by omega) (by omega), show (y - 7 * 4503599627370496) % 4503599627370496 = y % 4503599627370496 by omega, show (y - 7 * 4503599627370496) / 4503599627370496 = c.log2 + 1016 by omega, e, show 1068 - (c.log2 + 1016) = 52 - c.log2 by omega, Nat.mul_div_cancel _ (Nat.two_pow_pos _), Nat.mul_mod_left, if_neg (by have := Nat.two_pow_pos (52 - c.log2); omega), Nat.add_zero]

theorem val_mono {x y : Nat} (h1 : 4503599627370496 ≤ x) (h : x ≤ y) : val x ≤ val y := by
  rcases Nat.lt_or_eq_of_le h with h2 | h2
  · exact Nat.le_of_lt (val_lt h1 h2)
  · subst h2; exact Nat.le_refl _
/-- What is rounded does not fall below a word that lies below. -/
theorem near_ge {m : Nat} (hm : m ≠ 0) {p : Int} (hp0 : -1074 ≤ p) (hp : -1022 ≤ p + m.log2) {x : Nat} (h1 : 4503599627370496 ≤ x) (h2 : x < 9218868437227405312) (hv : val x ≤ m * 2 ^ (p + 1074).toNat) : x ≤ double.nearest false m p := by
  rw [near_norm hm hp]
  refine Nat.le_min.2 ⟨?_, by omega⟩
  have kg := kept_ge hm
  have hll := log_le hm
  have hlt := @lt_log m
  obtain ⟨q, hq⟩ : ∃ q : Nat, (p + m.log2 + 1022).toNat = q := ⟨_, rfl⟩
  rw [hq]
  obtain ⟨E, hE⟩ : ∃ E, x / 4503599627370496 - 1 = E := ⟨_, rfl⟩
  unfold val at hv
  rw [hE] at hv
  have hx : x = E * 4503599627370496 + (4503599627370496 + x % 4503599627370496) := by omega
  obtain ⟨s, hs⟩ : ∃ s, (p + 1074).toNat = s := ⟨_, rfl⟩
  rw [hs] at hv
  have hmx : 4503599627370496 ≤ 4503599627370496 + x % 4503599627370496 ∧ 4503599627370496 + x % 4503599627370496 < 2 * 4503599627370496 := by omega
  generalize 4503599627370496 + x % 4503599627370496 = mx at *
  rcases Nat.lt_trichotomy E q with h | h | h
  · have := Nat.mul_le_mul_right 4503599627370496 (show E + 1 ≤ q from h)
    omega
  · subst h
    have : mx ≤ kept m := by
      unfold kept
      split
      · rename_i hl
        rw [show s = (52 - m.log2) + E by omega, Nat.pow_add, ← Nat.mul_assoc] at hv
        exact Nat.le_of_mul_le_mul_right hv (Nat.two_pow_pos E)
      · rename_i hl
        rw [show E = (m.log2 - 52) + s by omega, Nat.pow_add, ← Nat.mul_assoc] at hv
        have := (Nat.le_div_iff_mul_le (Nat.two_pow_pos (m.log2 - 52))).2 (Nat.le_of_mul_le_mul_right hv (Nat.two_pow_pos s))
        rw [cut_val _ _ (by omega)]
        omega
    omega
  · exfalso
    have a := Nat.mul_lt_mul_of_pos_right hlt (Nat.two_pow_pos s)
    rw [← Nat.pow_add, show m.log2 + 1 + s = 53 + q by omega] at a
    have b := Nat.mul_le_mul hmx.1 (Nat.pow_le_pow_right (show 0 < 2 by decide) (show q + 1 ≤ E from h))
    have e : 4503599627370496 * 2 ^ (q + 1) = 2 ^ (53 + q) := by
      rw [show 4503599627370496 = 2 ^ 52 by decide +kernel, ← Nat.pow_add]; congr 1; omega
    rw [e] at b
    exact absurd (Nat.lt_of_lt_of_le a (Nat.le_trans b hv)) (Nat.lt_irrefl _)
/-- What is rounded does not rise above a word that lies above. -/
theorem near_le {m : Nat} (hm : m ≠ 0) {p : Int} (hp0 : -1074 ≤ p) (hp : -1022 ≤ p + m.log2) {x : Nat} (h1 : 4503599627370496 ≤ x) (h2 : x < 9218868437227405312) (hv : m * 2 ^ (p + 1074).toNat ≤ val x) : double.nearest false m p ≤ x := by
  rw [near_norm hm hp]
  refine Nat.le_trans (Nat.min_le_left _ _) ?_
  have kg := kept_le hm
  have hll := log_le hm
  have hlt := @lt_log m
  obtain ⟨q, hq⟩ : ∃ q : Nat, (p + m.log2 + 1022).toNat = q := ⟨_, rfl⟩
  rw [hq]
  obtain ⟨E, hE⟩ : ∃ E, x / 4503599627370496 - 1 = E := ⟨_, rfl⟩
  unfold val at hv
  rw [hE] at hv
  have hx : x = E * 4503599627370496 + (4503599627370496 + x % 4503599627370496) := by omega
  obtain ⟨s, hs⟩ : ∃ s, (p + 1074).toNat = s := ⟨_, rfl⟩
  rw [hs] at hv
  have hmx : 4503599627370496 ≤ 4503599627370496 + x % 4503599627370496 ∧ 4503599627370496 + x % 4503599627370496 < 2 * 4503599627370496 := by omega
  generalize 4503599627370496 + x % 4503599627370496 = mx at *
  rcases Nat.lt_trichotomy E q with h | h | h
  · exfalso
    have a := Nat.mul_le_mul_right (2 ^ s) hll
    rw [← Nat.pow_add, show m.log2 + s = 52 + q by omega] at a
    have b := Nat.mul_lt_mul_of_lt_of_le hmx.2 (Nat.pow_le_pow_right (show 0 < 2 by decide) (Nat.le_refl E)) (Nat.two_pow_pos E)
    have e : 2 * 4503599627370496 * 2 ^ E = 2 ^ (53 + E) := by
      rw [show 2 * 4503599627370496 = 2 ^ 53 by decide +kernel, ← Nat.pow_add]
    rw [e] at b
    have c : 2 ^ (53 + E) ≤ 2 ^ (52 + q) := Nat.pow_le_pow_right (by decide) (by omega)
    exact absurd (Nat.lt_of_lt_of_le b (Nat.le_trans c (Nat.le_trans a hv))) (Nat.lt_irrefl _)
  · subst h
    have : kept m ≤ mx := by
      unfold kept
      split
      · rename_i hl
        rw [show s = (52 - m.log2) + E by omega, Nat.pow_add, ← Nat.mul_assoc] at hv
        exact Nat.le_of_mul_le_mul_right hv (Nat.two_pow_pos E)
      · rename_i hl
        rw [show E = (m.log2 - 52) + s by omega, Nat.pow_add, ← Nat.mul_assoc] at hv
        have hv2 := Nat.le_of_mul_le_mul_right hv (Nat.two_pow_pos s)
        rw [cut_val _ _ (by omega)]
        have p2 := Nat.two_pow_pos (m.log2 - 52)
        have hdm := Nat.div_add_mod m (2 ^ (m.log2 - 52))
        have hml := Nat.mod_lt m p2
        generalize 2 ^ (m.log2 - 52) = G at *
        have hle : m / G ≤ mx := by
          have := Nat.div_le_div_right (c := G) hv2
          rwa [Nat.mul_div_cancel _ p2] at this
        rcases Nat.lt_or_eq_of_le hle with hh | hh
        · split <;> omega
        · rw [hh, Nat.mul_comm] at hdm
          rw [if_neg (by omega)]
          omega
    omega
  · have := Nat.mul_le_mul_right 4503599627370496 (show q + 1 ≤ E from h)
    omega
theorem near_max {m : Nat} (hm : m ≠ 0) {p : Int} (hp : -1022 ≤ p + m.log2) : double.nearest false m p ≤ 9218868437227405312 := by
  rw [near_norm hm hp]; exact Nat.min_le_right _ _
theorem log_mul {a b : Nat} (ha : a ≠ 0) (hb : b ≠ 0) : a.log2 + b.log2 ≤ (a * b).log2 := by
  refine (Nat.le_log2 (Nat.mul_ne_zero ha hb)).2 ?_
  rw [Nat.pow_add]
  exact Nat.mul_le_mul (log_le ha) (log_le hb)
theorem log_mono {a b : Nat} (ha : a ≠ 0) (h : a ≤ b) : a.log2 ≤ b.log2 := (Nat.le_log2 (by omega)).2 (Nat.le_trans (log_le ha) h)
/-- A sum of two words of at least the least normal one. -/
theorem add_norm {x y : Nat} (h1 : 4503599627370496 ≤ x) (h2 : x < 9218868437227405312) (h3 : 4503599627370496 ≤ y) (h4 : y < 9218868437227405312) : ∃ M : Nat, ∃ p : Int, double.add x y = some (double.nearest false M p) ∧ M ≠ 0 ∧ -1074 ≤ p ∧ -1022 ≤ p + M.log2 ∧ M * 2 ^ (p + 1074).toNat = val x + val y := by
  unfold Format.add
  rw [read_norm h1 h2, read_norm h3 h4]
  unfold Datum.sum val
  simp only [signed, Bool.false_eq_true, if_false, shl]
  have hx : 1 ≤ x / 4503599627370496 := by omega
  have hy : 1 ≤ y / 4503599627370496 := by omega
  have hmx : 4503599627370496 ≤ 4503599627370496 + x % 4503599627370496 := by omega
  have hmy : 4503599627370496 ≤ 4503599627370496 + y % 4503599627370496 := by omega
  generalize 4503599627370496 + x % 4503599627370496 = mx at *
  generalize 4503599627370496 + y % 4503599627370496 = my at *
  generalize x / 4503599627370496 = X at *
  generalize y / 4503599627370496 = Y at *
  obtain ⟨b, hb⟩ : ∃ b : Int, min (-1075 + (X : Int)) (-1075 + (Y : Int)) = b := ⟨_, rfl⟩
  rw [hb]
  obtain ⟨u, hu⟩ : ∃ u, (-1075 + (X : Int) - b).toNat = u := ⟨_, rfl⟩
  obtain ⟨v, hv⟩ : ∃ v, (-1075 + (Y : Int) - b).toNat = v := ⟨_, rfl⟩
  rw [hu, hv]
  have pu := Nat.two_pow_pos u
  have pv := Nat.two_pow_pos v
  have h5 : 4503599627370496 ≤ mx * 2 ^ u := Nat.le_trans hmx (Nat.le_mul_of_pos_right _ pu)
  have h6 : 4503599627370496 ≤ my * 2 ^ v := Nat.le_trans hmy (Nat.le_mul_of_pos_right _ pv)
  have hlg : 52 ≤ (mx * 2 ^ u + my * 2 ^ v).log2 := (Nat.le_log2 (by omega)).2 (by
    have e : (2 : Nat) ^ 52 = 4503599627370496 := by decide +kernel
    rw [e]; omega)
  refine ⟨mx * 2 ^ u + my * 2 ^ v, b, ?_, by omega, by omega, by omega, ?_⟩
  · show some (double.nearest _ _ _) = _
    have e1 : ((mx * 2 ^ u : Nat) : Int) + ((my * 2 ^ v : Nat) : Int) = ((mx * 2 ^ u + my * 2 ^ v : Nat) : Int) := by omega
    rw [e1, Int.natAbs_natCast, if_neg (by omega), decide_eq_false (by omega)]
  · rw [Nat.add_mul, Nat.mul_assoc, Nat.mul_assoc, ← Nat.pow_add, ← Nat.pow_add, show u + (b + 1074).toNat = X - 1 by omega, show v + (b + 1074).toNat = Y - 1 by omega]
/-- A product of two words. -/
theorem mul_norm {x y : Nat} (h1 : 4503599627370496 ≤ x) (h2 : x < 9218868437227405312) (h3 : 4503599627370496 ≤ y) (h4 : y < 9218868437227405312) (hp : 1076 ≤ x / 4503599627370496 + y / 4503599627370496) : ∃ M : Nat, ∃ p : Int, double.mul x y = some (double.nearest false M p) ∧ M ≠ 0 ∧ -1074 ≤ p ∧ -1022 ≤ p + M.log2 ∧ M = (4503599627370496 + x % 4503599627370496) * (4503599627370496 + y % 4503599627370496) ∧ (p + 1074).toNat = x / 4503599627370496 + y / 4503599627370496 - 1076 := by
  unfold Format.mul
  rw [read_norm h1 h2, read_norm h3 h4]
  have hm : (4503599627370496 + x % 4503599627370496) * (4503599627370496 + y % 4503599627370496) ≠ 0 := Nat.mul_ne_zero (by omega) (by omega)
  have hl := log_mul (a := 4503599627370496 + x % 4503599627370496) (b := 4503599627370496 + y % 4503599627370496) (by omega) (by omega)
  rw [log_52 (Nat.mod_lt _ (by omega)), log_52 (Nat.mod_lt _ (by omega))] at hl
  refine ⟨_, _, rfl, hm, by omega, by omega, rfl, by omega⟩
/-- 7 times a float of at least 1, and so on: a mean that moves is of at least 1. -/
theorem mul_7 {x : Nat} (h : right x) : ∃ r, double.mul x 4619567317775286272 = some r ∧ right r ∧ 4619567317775286272 ≤ r := by
  rcases Nat.lt_or_ge x 9218868437227405312 with h3 | h3
  · have h1 := h.1
    obtain ⟨M, p, a, b, c, d, e, f⟩ := mul_norm (x := x) (y := 4619567317775286272) (by omega) h3 (by omega) (by omega) (by omega)
    have g : 4619567317775286272 ≤ double.nearest false M p := by
      refine near_ge b c d (by omega) (by omega) ?_
      have hE : 1023 ≤ x / 4503599627370496 := by omega
      obtain ⟨Z, hZ⟩ := pows
      obtain ⟨k, hk⟩ : ∃ k, x / 4503599627370496 + 4619567317775286272 / 4503599627370496 - 1076 = 972 + k := ⟨x / 4503599627370496 + 4619567317775286272 / 4503599627370496 - 2048, by omega⟩
      rw [f, e, hZ _ k hk, val_shift (x := 4619567317775286272) (d := 52) hZ (by decide +kernel) rfl, Nat.mul_comm (4503599627370496 + x % 4503599627370496), Nat.mul_assoc]
      refine Nat.mul_le_mul_left _ ?_
      rw [Nat.mul_left_comm]
      have pk := Nat.two_pow_pos k
      have p3 : (4503599627370496 + x % 4503599627370496) * 1 ≤ (4503599627370496 + x % 4503599627370496) * 2 ^ k := Nat.mul_le_mul_left _ pk
      exact Nat.mul_le_mul_left Z (by omega)
    exact ⟨_, a, ⟨by omega, near_max b d⟩, g⟩
  · have e : x = 9218868437227405312 := by have := h.2; omega
    subst e
    exact ⟨9218868437227405312, by decide +kernel, by decide, by decide⟩
theorem add_17 {x y : Nat} (h : right x) (h7 : 4619567317775286272 ≤ x) (hy : 4607182418800017408 ≤ y ∧ y < 9218868437227405312) : ∃ r, double.add x y = some r ∧ right r ∧ 4620693217682128896 ≤ r := by
  rcases Nat.lt_or_ge x 9218868437227405312 with h3 | h3
  · obtain ⟨M, p, a, b, c, d, e⟩ := add_norm (x := x) (y := y) (by omega) h3 (by omega) hy.2
    have g : 4620693217682128896 ≤ double.nearest false M p := by
      refine near_ge b c d (by omega) (by omega) ?_
      rw [e]
      refine Nat.le_trans (Nat.le_of_eq ?_) (Nat.add_le_add (val_mono (by omega) h7) (val_mono (by omega) hy.1))
      obtain ⟨Z, hZ⟩ := pows
      have v7 := val_shift (x := 4619567317775286272) (d := 52) hZ (by decide +kernel) rfl
      have v8 := val_shift (x := 4620693217682128896) (d := 53) hZ (by decide +kernel) rfl
      have v1 := val_shift (x := 4607182418800017408) (d := 50) hZ (by decide +kernel) rfl
      rw [v7, v8, v1]
      clear v7 v8 v1 hZ e
      omega
    exact ⟨_, a, ⟨by omega, near_max b d⟩, g⟩
  · have e : x = 9218868437227405312 := by have := h.2; omega
    subst e
    refine ⟨9218868437227405312, ?_, by decide, by decide⟩
    unfold Format.add
    rw [read_inf, read_norm (x := y) (by omega) hy.2]
    rfl
theorem div_8 {x : Nat} (h : right x) (h8 : 4620693217682128896 ≤ x) : ∃ r, double.div x 4620693217682128896 = some r ∧ right r := by
  rcases Nat.lt_or_ge x 9218868437227405312 with h3 | h3
  · exact ⟨_, div_pow (k := 3) (by omega) h3 (by omega), by omega, by omega⟩
  · have e : x = 9218868437227405312 := by have := h.2; omega
    subst e
    exact ⟨9218868437227405312, by decide +kernel, by decide⟩
/-- A whole number as a float. -/
def fl (n : Nat) : Nat := double.nearest false n 0
theorem fl_ok {n : Nat} (h1 : 1 ≤ n) (h2 : n ≤ 1000000) : 4607182418800017408 ≤ fl n ∧ fl n < 9218868437227405312 := by
  obtain ⟨x, a, b, c, _, _, _, g⟩ := int_word (n := n) (by omega) (by omega)
  unfold fl
  rw [a]
  exact ⟨g, c⟩
theorem move_ok {x n : Nat} (h : right x) (h1 : 1 ≤ n) (h2 : n ≤ 16) : ∃ r1 r2 r3, double.mul x 4619567317775286272 = some r1 ∧ double.add r1 (fl n) = some r2 ∧ double.div r2 4620693217682128896 = some r3 ∧ right r3 := by
  obtain ⟨r1, a1, b1, c1⟩ := mul_7 h
  obtain ⟨r2, a2, b2, c2⟩ := add_17 b1 c1 (fl_ok h1 (by omega))
  obtain ⟨r3, a3, b3⟩ := div_8 b2 c2
  exact ⟨r1, r2, r3, a1, a2, a3, b3⟩

/-! ### What the program's functions answer -/
theorem ge_one {x : Nat} (hx : x < 2 * 9223372036854775808) : (double.order x 4607182418800017408 == some .gt || double.order x 4607182418800017408 == some .eq) = decide (right x) := by
  rw [ge_right hx (by decide) (by decide)]
  by_cases h : right x
  · rw [decide_eq_true h, decide_eq_true ⟨h, h.1⟩]
  · rw [decide_eq_false h, decide_eq_false (fun h2 => h h2.1)]
theorem nan_not {x : Nat} (h : (double.order x x != some .eq) = true) : ¬ right x := fun h2 => by rw [same_right h2] at h; cases h
theorem lt_right {x y : Nat} (hx : right x) (hy : right y) : (double.order x y == some .lt) = decide (x < y) := by
  rw [order_right hx hy]
  unfold cmpN
  by_cases h : x < y
  · rw [if_pos h, decide_eq_true h]; rfl
  · rw [if_neg h, decide_eq_false h]; split <;> rfl
/-- A cost, and what is wrong. -/
def costV (x : Nat) : Int := if right x then (if 4647714815446351872 ≤ x then 65535 else if (65535 : Int) < (rndF x : Int) then 65535 else (rndF x : Int)) else 0
def costE (x : Nat) : Int := if right x then 0 else 1
theorem costV_mono {x y : Nat} (hx : right x) (hy : right y) (h : x ≤ y) : costV x ≤ costV y := by
  unfold costV
  rw [if_pos hx, if_pos hy]
  by_cases h1 : 4647714815446351872 ≤ y
  · rw [if_pos h1]
    split
    · omega
    · split <;> omega
  · rw [if_neg h1, if_neg (by omega)]
    have := rnd_mono hx.1 h (by omega)
    split <;> split <;> omega
theorem i2f_nat (n : Nat) : floatOfInt .f64 (n : Int) = fl n := by
  unfold floatOfInt FloatKind.nearest FloatKind.encode fl
  show double.write (.number (decide ((n : Int) < 0)) (n : Int).natAbs 0) = _
  rw [decide_eq_false (by omega), Int.natAbs_natCast]
  rfl
theorem f2i_rnd {x : Nat} (h1 : 4607182418800017408 ≤ x) (h2 : x < 4647714815446351872) : floatToIntVal .f64 (double.nearest false (rndF x) 0) .i64 = some (rndF x : Int) := by
  have hb := rnd_small h1 h2
  unfold floatToIntVal
  show (match (double.read (double.nearest false (rndF x) 0)).toInt .zero with | some n => if IntKind.i64.min ≤ n ∧ n ≤ IntKind.i64.max then some n else none | none => none) = _
  rw [toInt_word (by omega) (by omega)]
  exact if_pos ⟨by show (-9223372036854775808 : Int) ≤ _; omega, by show _ ≤ (9223372036854775807 : Int); omega⟩
/-- How a mean moves. -/
def moveF (is : Bool) (x n : Nat) : Nat := if is then (((double.mul x 4619567317775286272).bind fun a => double.add a (fl n)).bind fun b => double.div b 4620693217682128896).getD 0 else fl n
theorem moveF_yes {x n r1 r2 r3 : Nat} (h1 : double.mul x 4619567317775286272 = some r1) (h2 : double.add r1 (fl n) = some r2) (h3 : double.div r2 4620693217682128896 = some r3) : moveF true x n = r3 := by
  have e : moveF true x n = (((double.mul x 4619567317775286272).bind fun a => double.add a (fl n)).bind fun b => double.div b 4620693217682128896).getD 0 := if_pos rfl
  rw [e, h1, Option.bind_some, h2, Option.bind_some, h3, Option.getD_some]
theorem moveF_no (x n : Nat) : moveF false x n = fl n := if_neg Bool.false_ne_true
theorem moveF_right {is : Bool} {x n : Nat} (h : is = true → right x) (h1 : 1 ≤ n) (h2 : n ≤ 16) : right (moveF is x n) := by
  cases is with
  | false =>
    have := fl_ok h1 (show n ≤ 1000000 by omega)
    rw [moveF_no]
    exact ⟨this.1, Nat.le_of_lt this.2⟩
  | true =>
    obtain ⟨r1, r2, r3, a, b, c, d⟩ := move_ok (h rfl) h1 h2
    rw [moveF_yes a b c]; exact d
def senF (s n : Int) : Int := if 1099511627776 < s + n then 1099511627776 else s + n
/-! ### The document's cost: bit by bit -/
def bitF (k : Nat) : Nat := 65536 / 2 ^ k
def numF (N k : Nat) : Nat := N / 2 ^ (17 - k) * 2 ^ (17 - k)
theorem bit_facts (k : Nat) (hk : k ≤ 17) : (bitF k = 0 ↔ k = 17) ∧ bitF k ≤ 65536 ∧ bitF k / 2 = bitF (k + 1) := by
  match k, hk with
  | 0, _ => exact ⟨by simp [bitF], by simp [bitF], by simp [bitF]⟩
  | 1, _ => exact ⟨by simp [bitF], by simp [bitF], by simp [bitF]⟩
  | 2, _ => exact ⟨by simp [bitF], by simp [bitF], by simp [bitF]⟩
  | 3, _ => exact ⟨by simp [bitF], by simp [bitF], by simp [bitF]⟩
  | 4, _ => exact ⟨by simp [bitF], by simp [bitF], by simp [bitF]⟩
  | 5, _ => exact ⟨by simp [bitF], by simp [bitF], by simp [bitF]⟩
  | 6, _ => exact ⟨by simp [bitF], by simp [bitF], by simp [bitF]⟩
  | 7, _ => exact ⟨by simp [bitF], by simp [bitF], by simp [bitF]⟩
  | 8, _ => exact ⟨by simp [bitF], by simp [bitF], by simp [bitF]⟩
  | 9, _ => exact ⟨by simp [bitF], by simp [bitF], by simp [bitF]⟩
  | 10, _ => exact ⟨by simp [bitF], by simp [bitF], by simp [bitF]⟩
  | 11, _ => exact ⟨by simp [bitF], by simp [bitF], by simp [bitF]⟩
  | 12, _ => exact ⟨by simp [bitF], by simp [bitF], by simp [bitF]⟩
  | 13, _ => exact ⟨by simp [bitF], by simp [bitF], by simp [bitF]⟩
  | 14, _ => exact ⟨by simp [bitF], by simp [bitF], by simp [bitF]⟩
  | 15, _ => exact ⟨by simp [bitF], by simp [bitF], by simp [bitF]⟩
  | 16, _ => exact ⟨by simp [bitF], by simp [bitF], by simp [bitF]⟩
  | 17, _ => exact ⟨by simp [bitF], by simp [bitF], by simp [bitF]⟩
  | k + 18, h => exact absurd h (by omega)
theorem num_start {N : Nat} (h : N < 65536) : numF N 0 = 0 := by
  unfold numF
  rw [Nat.div_eq_of_lt (by omega), Nat.zero_mul]
theorem num_end (N : Nat) : numF N 17 = N := by unfold numF; simp
theorem num_le (N k : Nat) : numF N k ≤ N := Nat.div_mul_le_self _ _
theorem num_step {N k : Nat} (hk : k < 17) : numF N (k + 1) = if numF N k + bitF k ≤ N then numF N k + bitF k else numF N k := by
  unfold numF bitF
  obtain ⟨i, rfl⟩ : ∃ i, i = k := ⟨k, rfl⟩
  have e1 : 17 - (i + 1) = 16 - i := by omega
  have e2 : 17 - i = (16 - i) + 1 := by omega
  have e3 : 65536 / 2 ^ i = 2 ^ (16 - i) := by
    have : 65536 = 2 ^ (16 - i) * 2 ^ i := by rw [← Nat.pow_add, show 16 - i + i = 16 by omega]
    rw [this, Nat.mul_div_cancel _ (Nat.two_pow_pos i)]
  rw [e1, e2, e3, Nat.pow_succ]
  have p := Nat.two_pow_pos (16 - i)
  generalize 2 ^ (16 - i) = G at *
  have h2 : N / (G * 2) = N / G / 2 := (Nat.div_div_eq_div_mul N G 2).symm
  have hd := Nat.div_add_mod N G
  have hm := Nat.mod_lt N p
  rw [h2]
  generalize N / G = q at *
  have hq := Nat.div_add_mod q 2
  rcases Nat.mod_two_eq_zero_or_one q with h | h
  · have e : q = q / 2 * 2 := by omega
    have hE : q / 2 * (G * 2) = q * G := by rw [Nat.mul_comm G 2, ← Nat.mul_assoc, ← e]
    rw [hE, if_neg]
    rw [Nat.mul_comm] at hd
    omega
  · have e : q = q / 2 * 2 + 1 := by omega
    have hE : q / 2 * (G * 2) + G = q * G := by
      conv => rhs; rw [e, Nat.add_mul, Nat.one_mul, Nat.mul_assoc, Nat.mul_comm 2 G]
    rw [if_pos (by rw [hE, Nat.mul_comm]; omega), hE]
theorem wf_lt {x : Nat} (h : (Lit.float .f64 x).wf = true) : x < 2 * 9223372036854775808 := by
  have h2 : decide (x < 2 ^ 64) = true := h
  have := of_decide_eq_true h2
  have e : (2 : Nat) ^ 64 = 2 * 9223372036854775808 := by decide +kernel
  omega
theorem eq_self {x : Nat} (h : right x) : (double.order x x == some .eq) = true := by rw [order_right h h]; unfold cmpN; simp
theorem fl_right {c : Nat} (h1 : 1 ≤ c) (h2 : c ≤ 1000000) : right (fl c) := ⟨(fl_ok h1 h2).1, Nat.le_of_lt (fl_ok h1 h2).2⟩
theorem leq_fl {x m : Nat} (h1 : 4607182418800017408 ≤ x) (h2 : x < 4647714815446351872) (hm : m ≠ 0) (hl : m < 9007199254740992) : (double.order (fl m) (x + 7 * 4503599627370496) == some .lt || double.order (fl m) (x + 7 * 4503599627370496) == some .eq) = decide (m ≤ NF x) := leq_int h1 h2 hm hl
theorem sub_fl {x : Nat} (h1 : 4607182418800017408 ≤ x) (h2 : x < 4647714815446351872) : ∃ r, double.sub (x + 7 * 4503599627370496) (fl (NF x)) = some r ∧ (double.order r 4602678819172646912 == some .gt) = decide (2 ^ (1068 - x / 4503599627370496) < 2 * RF x) ∧ (double.order r 4602678819172646912 == some .eq) = decide (2 ^ (1068 - x / 4503599627370496) = 2 * RF x) := by
  obtain ⟨r, a, _, b, c⟩ := sub_int h1 h2
  exact ⟨r, a, b, c⟩
theorem cost_fl {c : Nat} (h1 : 128 ≤ c) (h2 : c < 65535) : ∃ z, double.div (fl c) 4638707616191610880 = some z ∧ right z ∧ z < 4647714815446351872 ∧ double.mul z 4638707616191610880 = some (fl c) ∧ costV z = (c : Int) ∧ costE z = 0 := by
  obtain ⟨z, a, b, c', d, e⟩ := cost_float h1 (by omega)
  have hr : right z := ⟨b, by omega⟩
  refine ⟨z, a, hr, c', ?_, ?_, ?_⟩
  · rw [mul_128 b ⟨by omega, by omega⟩]; exact congrArg some d
  · unfold costV
    rw [if_pos hr, if_neg (by omega), e, if_neg (by omega)]
  · unfold costE
    rw [if_pos hr]
theorem cost_doc {x : Nat} (h1 : 4607182418800017408 ≤ x) (h2 : x < 4647714815446351872) : right x := ⟨h1, by omega⟩
end Go.Proofs.Ytpnpfapdjdcnbaa.Fl
