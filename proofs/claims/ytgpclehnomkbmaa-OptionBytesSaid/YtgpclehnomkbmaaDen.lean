/- The document's options as bytes. -/
import Derived.Test.YtgpclehnomkbmaaOpd
import Derived.Test.YtgpclehnomkbmaaOptRck
set_option maxRecDepth 100000
set_option linter.unusedVariables false
set_option linter.unusedSimpArgs false
namespace Go.Proofs.Ytgpclehnomkbmaa.Dn
open Go.RowKit Go.Proofs.YtgpclehnomkbmaaW.PrintWords Go.Proofs.Ytgpclehnomkbmaa.Ds Go.Proofs.Ytgpclehnomkbmaa.Op Go.Proofs.Ytgpclehnomkbmaa.Oc Go.Proofs.Ytgpclehnomkbmaa.Or Go.Proofs.Ytgpclehnomkbmaa.Ow Go.Proofs.Ytgpclehnomkbmaa.Ob Go.Proofs.Ytgpclehnomkbmaa.Oe Go.Proofs.Ytgpclehnomkbmaa.Orf Go.Proofs.Ytgpclehnomkbmaa.Ork Go.Proofs.Ytgpclehnomkbmaa.Opd
open Go.Proofs.Ytgpclehnomkbmaa.Pk (Kp fitsF spanF putF digF fits_any put_ok C_take)
section
variable {P : Program} {T T1 T2 : TypeId} {m : List (Nat × Value)} {w : World} {X Y : Operand} {k : IntKind}
theorem st_indexV {s : ByteArray} {i : Nat} {x : Int} (hT : P.underlying T1 = some .string) (h1 : ev m X = some (.string s)) (h2 : ev m Y = some (.int k (i : Int))) (hi : i < s.size) (hx : bt s (i : Int) = x) : Still P (.index T1 X Y) T m w (.int .u8 x) := by
 subst hx; exact st_indexS hT h1 h2 hi
end
/-- The bytes of a kind's first i parts. -/
def putP (k : Nat) (l : List Int) (f : Nat → Int) : Nat → List Int
 | 0 => []
 | i + 1 => putP k l f i ++ (if bt (partsF k) (i : Int) = 97 then l16 f else digF (szF (bt (partsF k) (i : Int))) (rd l (cntF (partsF k) i : Int)))
def factE (k i : Nat) : Prop := bt (partsF k) (i : Int) ≠ 116 ∧ bt (partsF k) (i : Int) ≠ 120 ∧ (bt (partsF k) (i : Int) = 97 → hasF (partsF k) 97 i = false ∧ cntF (partsF k) i = atF k ∧ szF (bt (partsF k) (i : Int)) = 0) ∧ (bt (partsF k) (i : Int) ≠ 97 → 0 < szF (bt (partsF k) (i : Int)) ∧ cntF (partsF k) i < (sizesF k).length ∧ rd (sizesF k) (cntF (partsF k) i : Int) = szF (bt (partsF k) (i : Int))) ∧ (hasF (partsF k) 97 i = true → atF k ≤ cntF (partsF k) i)
instance (k i : Nat) : Decidable (factE k i) := inferInstanceAs (Decidable (_ ∧ _))
theorem factE_all : ∀ k ∈ [3, 4, 5, 6, 7, 8, 9], (∀ i ∈ List.range (partsF k).size, factE k i) ∧ (addrF k = true → atF k ≤ (sizesF k).length) := by decide +kernel
theorem factE_k {k : Nat} (h3 : 3 ≤ k) (h9 : k ≤ 9) : ∀ i, i < (partsF k).size → factE k i := by
 have hk : k ∈ [3, 4, 5, 6, 7, 8, 9] := by
  have : k = 3 ∨ k = 4 ∨ k = 5 ∨ k = 6 ∨ k = 7 ∨ k = 8 ∨ k = 9 := by omega
  rcases this with rfl | rfl | rfl | rfl | rfl | rfl | rfl <;> decide
 exact fun i hi => (factE_all k hk).1 i (List.mem_range.2 hi)
theorem put_oneE (s n : Int) : putF s [n] = digF s n := by simp [putF]
theorem putP_is {k : Nat} (h3 : 3 ≤ k) (h9 : k ≤ 9) (l : List Int) (f : Nat → Int) : ∀ i, i ≤ (partsF k).size → putP k l f i = if hasF (partsF k) 97 i = true then putsF (sizesF k) l 0 (atF k) ++ l16 f ++ putsF (sizesF k) l (atF k) (cntF (partsF k) i) else putsF (sizesF k) l 0 (cntF (partsF k) i)
 | 0, _ => rfl
 | i + 1, hi => by
  obtain ⟨_, _, ha, hd, hh⟩ := factE_k h3 h9 i (by omega)
  have ih := putP_is h3 h9 l f i (by omega)
  show putP k l f i ++ _ = _
  rw [ih, has_succ]
  by_cases h : bt (partsF k) (i : Int) = 97
  ·
   obtain ⟨h1, h2, h4⟩ := ha h
   have hc : cntF (partsF k) (i + 1) = cntF (partsF k) i := cnt_not (by omega)
   rw [if_pos h, h1, decide_eq_true h, hc, h2, if_neg (by decide), if_pos (by rfl), puts_nil, List.append_nil]
  ·
   obtain ⟨h1, h2, h4⟩ := hd h
   have hc : cntF (partsF k) (i + 1) = cntF (partsF k) i + 1 := cnt_yes h1
   rw [if_neg h, decide_eq_false h, Bool.or_false, hc, ← put_oneE, ← h4]
   by_cases hp : hasF (partsF k) 97 i = true
   · rw [if_pos hp, if_pos hp, puts_succ (hh hp)]
   ·
    rw [if_neg hp, if_neg hp]
    have := puts_succ (SZ := sizesF k) (l := l) (Nat.zero_le (cntF (partsF k) i)) []
    simpa using this
theorem puts_cat (SZ l : List Int) {a j : Nat} (h : a ≤ j) : ∀ d, putsF SZ l a j ++ putsF SZ l j (j + d) = putsF SZ l a (j + d)
 | 0 => by rw [Nat.add_zero, puts_nil, List.append_nil]
 | d + 1 => by
  have e1 := puts_succ (SZ := SZ) (l := l) (show j ≤ j + d by omega) []
  have e2 := puts_succ (SZ := SZ) (l := l) (show a ≤ j + d by omega) []
  simp only [List.nil_append] at e1 e2
  rw [show j + (d + 1) = j + d + 1 from rfl, ← e1, ← e2, ← puts_cat SZ l h d, List.append_assoc]
theorem putP_end {k : Nat} (h3 : 3 ≤ k) (h9 : k ≤ 9) (l : List Int) (f : Nat → Int) : putP k l f (partsF k).size = bodyF k l f [] := by
 have pf := parts_facts k h9
 rw [putP_is h3 h9 l f _ (Nat.le_refl _), pf.2.1, pf.1]
 have e : bodyF k l f [] = putsF (sizesF k) l 0 (atF k) ++ (if addrF k = true then l16 f else []) ++ putsF (sizesF k) l (atF k) (sizesF k).length := by
  unfold bodyF
  rw [if_neg (show ¬ k = 1 by omega), List.append_nil]
 rw [e]
 by_cases ha : addrF k = true
 · rw [if_pos ha, if_pos ha]
 ·
  rw [if_neg ha, if_neg ha, List.append_nil]
  have hat : atF k ≤ (sizesF k).length := by unfold atF; omega
  have := puts_cat (sizesF k) l (Nat.zero_le (atF k)) ((sizesF k).length - atF k)
  rw [show atF k + ((sizesF k).length - atF k) = (sizesF k).length by omega] at this
  exact this.symm
theorem body_two (l : List Int) (f : Nat → Int) (tx : List Int) : bodyF 2 l f tx = tx := by
 unfold bodyF
 rw [if_neg (by decide), if_neg (by decide), show atF 2 = 0 from by decide, show (sizesF 2).length = 0 from by decide, puts_nil]
 rfl
theorem l16_len9 (f : Nat → Int) : (l16 f).length = 16 := by simp [l16]
theorem dig_len8 {c y : Int} {n : Nat} (h : 0 < szF c) (hn : (n : Int) = szF c) : (digF (szF c) y).length = n := by
 rcases szF_cases c with h1 | h1 | h1 | h1 <;> rw [h1] at hn ⊢ <;> simp [digF] <;> omega
theorem R21_0_l : List.range (regOf Try.f21 0).size = [0, 1] := by kernel_rfl
theorem R21_1_l : List.range (regOf Try.f21 1).size = [0, 1, 2] := by kernel_rfl
theorem R21_2_l : List.range (regOf Try.f21 2).size = [0, 1] := by kernel_rfl
theorem R21_3_l : List.range (regOf Try.f21 3).size = [0, 1, 2, 3] := by kernel_rfl
theorem R21_4_l : List.range (regOf Try.f21 4).size = [0] := by kernel_rfl
theorem R21_5_l : List.range (regOf Try.f21 5).size = [0] := by kernel_rfl
theorem R21_6_l : List.range (regOf Try.f21 6).size = [0] := by kernel_rfl
theorem R21_7_l : List.range (regOf Try.f21 7).size = [0, 1, 2, 3] := by kernel_rfl
theorem R21_9_l : List.range (regOf Try.f21 9).size = [0, 1, 2] := by kernel_rfl
theorem R21_13_l : List.range (regOf Try.f21 13).size = [0, 1] := by kernel_rfl
theorem R21_14_l : List.range (regOf Try.f21 14).size = [0, 1, 2, 3, 4] := by kernel_rfl
theorem R21_15_l : List.range (regOf Try.f21 15).size = [0, 1] := by kernel_rfl
theorem R21_16_l : List.range (regOf Try.f21 16).size = [0, 1, 2, 3, 4] := by kernel_rfl
theorem R21_17_l : List.range (regOf Try.f21 17).size = [0, 1] := by kernel_rfl
theorem R21_18_l : List.range (regOf Try.f21 18).size = [0, 1, 2, 3, 4, 5] := by kernel_rfl
theorem R21_11_l : List.range (regOf Try.f21 11).size = [0, 1, 2, 3] := by kernel_rfl
theorem R21_12_l : List.range (regOf Try.f21 12).size = [0, 1, 2] := by kernel_rfl
theorem R21_8_l : List.range (regOf Try.f21 8).size = [0, 1, 2] := by kernel_rfl
theorem R21_19_l : List.range (regOf Try.f21 19).size = [0, 1, 2, 3, 4, 5, 6, 7, 8, 9] := by kernel_rfl
theorem body21 : Try.f21.body = some (.seq (.region 0 (regOf Try.f21 0) false) (.seq (.seq (.region 1 (regOf Try.f21 1) false) (.cond (Operand.tmp 11) (.seq (.region 2 (regOf Try.f21 2) false) (.ret)) (.skip))) (.seq (.region 3 (regOf Try.f21 3) false) (.seq (.region 4 (regOf Try.f21 4) false) (.seq (.region 5 (regOf Try.f21 5) false) (.seq (.seq (.region 6 (regOf Try.f21 6) false) (.block 0 (.loop (.seq (.seq (.region 7 (regOf Try.f21 7) false) (.cond (Operand.tmp 19) (.skip) (.exit 0))) (.seq (.block 1 (.seq (.region 9 (regOf Try.f21 9) false) (.block 2 (.seq (.region 13 (regOf Try.f21 13) false) (.cond (Operand.tmp 43) (.region 14 (regOf Try.f21 14) false) (.seq (.region 15 (regOf Try.f21 15) false) (.cond (Operand.tmp 49) (.region 16 (regOf Try.f21 16) false) (.seq (.region 17 (regOf Try.f21 17) false) (.cond (Operand.tmp 55) (.region 18 (regOf Try.f21 18) false) (.seq (.region 10 (regOf Try.f21 10) true) (.seq (.region 11 (regOf Try.f21 11) false) (.region 12 (regOf Try.f21 12) false)))))))))))) (.region 8 (regOf Try.f21 8) false)))))) (.seq (.region 19 (regOf Try.f21 19) false) (.ret)))))))) := by kernel_rfl
theorem p21_0_0 : pj (regOf Try.f21 0) 0 = some (some 1, .box 45 (.tmp 0), 0, none) := by kernel_rfl
theorem p21_0_1 : pj (regOf Try.f21 0) 1 = some (some 2, .assign (.const (.slice none 0 0)), 22, none) := by kernel_rfl
theorem p21_1_0 : pj (regOf Try.f21 1) 0 = some (some 9, .fieldAddr 45 (.tmp 1) 0, 0, none) := by kernel_rfl
theorem tS3 : (Try.prog.info? 3).map (·.size) = some 1 := by kernel_rfl
theorem p21_1_1 : pj (regOf Try.f21 1) 1 = some (some 10, .load 3 (.tmp 9), 3, none) := by kernel_rfl
theorem tA3 : (Try.prog.underlying 3).map aggD = some false := by kernel_rfl
theorem p21_1_2 : pj (regOf Try.f21 1) 2 = some (some 11, .binOp .eql 3 (.tmp 10) (.const (.int .i64 0)) 3, 4, none) := by kernel_rfl
theorem p21_2_0 : pj (regOf Try.f21 2) 0 = some (some 12, .buildSlice 22 1 #[(0, .const (.int .u8 0))], 22, none) := by kernel_rfl
theorem p21_2_1 : pj (regOf Try.f21 2) 1 = some (some 2, .assign (.tmp 12), 22, none) := by kernel_rfl
theorem p21_3_0 : pj (regOf Try.f21 3) 0 = some (some 13, .fieldAddr 45 (.tmp 1) 0, 0, none) := by kernel_rfl
theorem p21_3_1 : pj (regOf Try.f21 3) 1 = some (some 14, .load 3 (.tmp 13), 3, none) := by kernel_rfl
theorem p21_3_2 : pj (regOf Try.f21 3) 2 = some (some 15, .call { callee := .value (.func 53), args := #[.tmp 14], argTypes := #[3] }, 9, none) := by kernel_rfl
theorem cl53 : callable Try.f53 = true := by kernel_rfl
theorem p21_3_3 : pj (regOf Try.f21 3) 3 = some (some 3, .assign (.tmp 15), 9, none) := by kernel_rfl
theorem p21_4_0 : pj (regOf Try.f21 4) 0 = some (some 4, .assign (.const (.slice none 0 0)), 22, none) := by kernel_rfl
theorem p21_5_0 : pj (regOf Try.f21 5) 0 = some (some 5, .assign (.const (.int .i64 0)), 3, none) := by kernel_rfl
theorem p21_6_0 : pj (regOf Try.f21 6) 0 = some (some 6, .assign (.const (.int .i64 0)), 3, none) := by kernel_rfl
theorem p21_7_0 : pj (regOf Try.f21 7) 0 = some (some 16, .move (.tmp 6), 3, none) := by kernel_rfl
theorem p21_7_1 : pj (regOf Try.f21 7) 1 = some (some 17, .move (.tmp 3), 9, none) := by kernel_rfl
theorem p21_7_2 : pj (regOf Try.f21 7) 2 = some (some 18, .call { callee := .builtin .len, args := #[.tmp 17], argTypes := #[9] }, 3, none) := by kernel_rfl
theorem p21_7_3 : pj (regOf Try.f21 7) 3 = some (some 19, .binOp .lss 3 (.tmp 16) (.tmp 18) 3, 4, none) := by kernel_rfl
theorem p21_9_0 : pj (regOf Try.f21 9) 0 = some (some 22, .move (.tmp 3), 9, none) := by kernel_rfl
theorem p21_9_1 : pj (regOf Try.f21 9) 1 = some (some 23, .move (.tmp 6), 3, none) := by kernel_rfl
theorem p21_9_2 : pj (regOf Try.f21 9) 2 = some (some 24, .index 9 (.tmp 22) (.tmp 23), 5, none) := by kernel_rfl
theorem p21_13_0 : pj (regOf Try.f21 13) 0 = some (some 44, .binOp .eql 5 (.tmp 24) (.const (.int .u8 97)) 5, 4, none) := by kernel_rfl
theorem p21_13_1 : pj (regOf Try.f21 13) 1 = some (some 43, .assign (.tmp 44), 4, none) := by kernel_rfl
theorem p21_15_0 : pj (regOf Try.f21 15) 0 = some (some 50, .binOp .eql 5 (.tmp 24) (.const (.int .u8 116)) 5, 4, none) := by kernel_rfl
theorem p21_15_1 : pj (regOf Try.f21 15) 1 = some (some 49, .assign (.tmp 50), 4, none) := by kernel_rfl
theorem p21_17_0 : pj (regOf Try.f21 17) 0 = some (some 56, .binOp .eql 5 (.tmp 24) (.const (.int .u8 120)) 5, 4, none) := by kernel_rfl
theorem p21_17_1 : pj (regOf Try.f21 17) 1 = some (some 55, .assign (.tmp 56), 4, none) := by kernel_rfl
theorem p21_18_0 : pj (regOf Try.f21 18) 0 = some (some 57, .fieldAddr 45 (.tmp 1) 1, 0, none) := by kernel_rfl
theorem tS42 : (Try.prog.info? 42).map (·.size) = some 1 := by kernel_rfl
theorem p21_18_1 : pj (regOf Try.f21 18) 1 = some (some 58, .load 42 (.tmp 57), 42, none) := by kernel_rfl
theorem tA42 : (Try.prog.underlying 42).map aggD = some false := by kernel_rfl
theorem p21_18_2 : pj (regOf Try.f21 18) 2 = some (some 59, .indexAddr 42 (.tmp 58) (.const (.int .i64 0)), 0, none) := by kernel_rfl
theorem p21_18_3 : pj (regOf Try.f21 18) 3 = some (some 60, .load 3 (.tmp 59), 3, none) := by kernel_rfl
theorem p21_18_4 : pj (regOf Try.f21 18) 4 = some (some 61, .makeSlice 22 (.tmp 60) (.tmp 60), 22, none) := by kernel_rfl
theorem eD5 : elemD Try.prog 5 = some (1, 1, 1) := by kernel_rfl
theorem tZ5 : (Try.prog.info? 5).bind (·.zero) = some (Value.int .u8 0) := by kernel_rfl
theorem p21_18_5 : pj (regOf Try.f21 18) 5 = some (some 4, .assign (.tmp 61), 22, none) := by kernel_rfl
theorem p21_8_0 : pj (regOf Try.f21 8) 0 = some (some 20, .move (.tmp 6), 3, none) := by kernel_rfl
theorem p21_8_1 : pj (regOf Try.f21 8) 1 = some (some 21, .binOp .add 3 (.tmp 20) (.const (.int .i64 1)) 3, 3, none) := by kernel_rfl
theorem p21_8_2 : pj (regOf Try.f21 8) 2 = some (some 6, .assign (.tmp 21), 3, none) := by kernel_rfl
theorem p21_19_0 : pj (regOf Try.f21 19) 0 = some (some 62, .fieldAddr 45 (.tmp 1) 0, 0, none) := by kernel_rfl
theorem p21_19_1 : pj (regOf Try.f21 19) 1 = some (some 63, .load 3 (.tmp 62), 3, none) := by kernel_rfl
theorem p21_19_2 : pj (regOf Try.f21 19) 2 = some (some 64, .convert 3 5 (.tmp 63), 5, none) := by kernel_rfl
theorem p21_19_3 : pj (regOf Try.f21 19) 3 = some (some 65, .move (.tmp 4), 22, none) := by kernel_rfl
theorem p21_19_4 : pj (regOf Try.f21 19) 4 = some (some 66, .call { callee := .builtin .len, args := #[.tmp 65], argTypes := #[22] }, 3, none) := by kernel_rfl
theorem p21_19_5 : pj (regOf Try.f21 19) 5 = some (some 67, .convert 3 5 (.tmp 66), 5, none) := by kernel_rfl
theorem p21_19_6 : pj (regOf Try.f21 19) 6 = some (some 68, .buildSlice 22 2 #[(0, .tmp 64), (1, .tmp 67)], 22, none) := by kernel_rfl
theorem p21_19_7 : pj (regOf Try.f21 19) 7 = some (some 69, .move (.tmp 4), 22, none) := by kernel_rfl
theorem p21_19_8 : pj (regOf Try.f21 19) 8 = some (some 70, .call { callee := .builtin .append, args := #[.tmp 68, .tmp 69], argTypes := #[22, 22] }, 22, none) := by kernel_rfl
theorem p21_19_9 : pj (regOf Try.f21 19) 9 = some (some 2, .assign (.tmp 70), 22, none) := by kernel_rfl
theorem p21_16_0 : pj (regOf Try.f21 16) 0 = some (some 51, .move (.tmp 4), 22, none) := by kernel_rfl
theorem p21_16_1 : pj (regOf Try.f21 16) 1 = some (some 52, .fieldAddr 45 (.tmp 1) 3, 0, none) := by kernel_rfl
theorem tS22 : (Try.prog.info? 22).map (·.size) = some 1 := by kernel_rfl
theorem p21_16_2 : pj (regOf Try.f21 16) 2 = some (some 53, .load 22 (.tmp 52), 22, none) := by kernel_rfl
theorem tA22 : (Try.prog.underlying 22).map aggD = some false := by kernel_rfl
theorem p21_16_3 : pj (regOf Try.f21 16) 3 = some (some 54, .call { callee := .builtin .append, args := #[.tmp 51, .tmp 53], argTypes := #[22, 22] }, 22, none) := by kernel_rfl
theorem p21_16_4 : pj (regOf Try.f21 16) 4 = some (some 4, .assign (.tmp 54), 22, none) := by kernel_rfl
theorem p21_14_0 : pj (regOf Try.f21 14) 0 = some (some 45, .move (.tmp 4), 22, none) := by kernel_rfl
theorem p21_14_1 : pj (regOf Try.f21 14) 1 = some (some 46, .fieldAddr 45 (.tmp 1) 2, 0, none) := by kernel_rfl
theorem tS43 : (Try.prog.info? 43).map (·.size) = some 16 := by kernel_rfl
theorem p21_14_2 : pj (regOf Try.f21 14) 2 = some (some 47, .slice 43 (.tmp 46) none none none, 22, none) := by kernel_rfl
theorem tS5 : (Try.prog.info? 5).map (·.size) = some 1 := by kernel_rfl
theorem p21_14_3 : pj (regOf Try.f21 14) 3 = some (some 48, .call { callee := .builtin .append, args := #[.tmp 45, .tmp 47], argTypes := #[22, 22] }, 22, none) := by kernel_rfl
theorem p21_14_4 : pj (regOf Try.f21 14) 4 = some (some 4, .assign (.tmp 48), 22, none) := by kernel_rfl
theorem ns21_10 : Region.noSelect (regOf Try.f21 10) = true := by kernel_rfl
theorem p21_10_0 : pj (regOf Try.f21 10) 0 = some (some 26, .move (.tmp 3), 9, none) := by kernel_rfl
theorem p21_10_1 : pj (regOf Try.f21 10) 1 = some (some 27, .move (.tmp 6), 3, none) := by kernel_rfl
theorem p21_10_2 : pj (regOf Try.f21 10) 2 = some (some 28, .index 9 (.tmp 26) (.tmp 27), 5, none) := by kernel_rfl
theorem p21_10_4 : pj (regOf Try.f21 10) 4 = some (some 30, .fieldAddr 45 (.tmp 1) 1, 0, none) := by kernel_rfl
theorem p21_10_5 : pj (regOf Try.f21 10) 5 = some (some 31, .load 42 (.tmp 30), 42, none) := by kernel_rfl
theorem p21_10_6 : pj (regOf Try.f21 10) 6 = some (some 32, .move (.tmp 5), 3, none) := by kernel_rfl
theorem p21_10_7 : pj (regOf Try.f21 10) 7 = some (some 33, .indexAddr 42 (.tmp 31) (.tmp 32), 0, none) := by kernel_rfl
theorem p21_10_8 : pj (regOf Try.f21 10) 8 = some (some 34, .load 3 (.tmp 33), 3, none) := by kernel_rfl
theorem p21_10_3 : pj (regOf Try.f21 10) 3 = some (some 29, .call { callee := .value (.func 58), args := #[.tmp 28], argTypes := #[5] }, 3, none) := by kernel_rfl
theorem cl58 : callable Try.f58 = true := by kernel_rfl
theorem p21_10_9 : pj (regOf Try.f21 10) 9 = some (some 35, .call { callee := .value (.func 59), args := #[.tmp 29, .tmp 34], argTypes := #[3, 3] }, 121, none) := by kernel_rfl
theorem cl59 : callable Try.f59 = true := by kernel_rfl
theorem p21_10_10 : pj (regOf Try.f21 10) 10 = some (some 25, .move (.tmp 35), 121, none) := by kernel_rfl
theorem p21_10_11 : pj (regOf Try.f21 10) 11 = some (some 36, .extract (.tmp 25) 0, 22, none) := by kernel_rfl
theorem p21_10_12 : pj (regOf Try.f21 10) 12 = some (some 37, .extract (.tmp 25) 1, 4, none) := by kernel_rfl
theorem p21_10_13 : pj (regOf Try.f21 10) 13 = some (some 7, .assign (.tmp 36), 22, none) := by kernel_rfl
theorem p21_10_14 : pj (regOf Try.f21 10) 14 = some (some 8, .assign (.tmp 37), 4, none) := by kernel_rfl
theorem p21_11_0 : pj (regOf Try.f21 11) 0 = some (some 38, .move (.tmp 4), 22, none) := by kernel_rfl
theorem p21_11_1 : pj (regOf Try.f21 11) 1 = some (some 39, .move (.tmp 7), 22, none) := by kernel_rfl
theorem p21_11_2 : pj (regOf Try.f21 11) 2 = some (some 40, .call { callee := .builtin .append, args := #[.tmp 38, .tmp 39], argTypes := #[22, 22] }, 22, none) := by kernel_rfl
theorem p21_11_3 : pj (regOf Try.f21 11) 3 = some (some 4, .assign (.tmp 40), 22, none) := by kernel_rfl
theorem p21_12_0 : pj (regOf Try.f21 12) 0 = some (some 41, .move (.tmp 5), 3, none) := by kernel_rfl
theorem p21_12_1 : pj (regOf Try.f21 12) 1 = some (some 42, .binOp .add 3 (.tmp 41) (.const (.int .i64 1)) 3, 3, none) := by kernel_rfl
theorem p21_12_2 : pj (regOf Try.f21 12) 2 = some (some 5, .assign (.tmp 42), 3, none) := by kernel_rfl
set_option maxHeartbeats 4000000 in
theorem renc_any (k : Nat) (hk9 : k ≤ 9) (l tx : List Int) (f : Nat → Int) (B T : Option Addr) (q ct : Nat) (hln : l.length = (sizesF k).length) (hN : numB (sizesF k) (lenF k) (zeroF k) l = true) (htx : tx.length ≤ 64) (ht2 : tx = [] ∨ k = 2) (w : World) (hF : ∀ W', Kp w W' (fun _ => False) → Kd.C (Kd.int .i64) W' B l.length l) (hG : ∀ W', Kp w W' (fun _ => False) → Kd.C (Kd.int .u8) W' T tx.length tx) : Calls Try.prog 21 #[Value.agg (([Value.int .i64 (k : Int), Value.slice B l.length q] ++ b16 f ++ [Value.slice T tx.length ct])).toArray] w fun e w' => ∃ A' n c', e = .returned (.slice A' n c') ∧ n = (bytesF k l f tx).length ∧ w'.ownsRow w.heap.size 5 1 (.slice A' n c') n (encs (Value.int .u8) (bytesF k l f tx)) ∧ Kp w w' (fun _ => False) := by
 have K_0 := Kp.refl w (fun _ => False)
 have hbl8 := body_len hk9 f hN htx
 refine enter (args := [Value.agg (([Value.int .i64 (k : Int), Value.slice B l.length q] ++ b16 f ++ [Value.slice T tx.length ct])).toArray]) (n := 71) Try.func21 body21 rfl rfl rfl ?_
 intro a hE
 refine c_reg R21_0_l ?_
 refine p_cons (s_box p21_0_0 hE wn_none rfl rfl ?_)
 clear hE a; intro g1 w2 z3 B_g1 hk a hE
 replace B_g1 : w2.heap[g1]? = some (.cells (([Value.int .i64 (k : Int), Value.slice B l.length q] ++ b16 f ++ [Value.slice T tx.length ct])).toArray 45 (0, 0)) := B_g1
 have z_0_g1 := Nat.le_trans K_0.kept.1 z3
 replace K_0 := K_0.then_ hk (fun _ h => h.elim)
 clear hk
 refine q0 p21_0_1 hE (st_assign rfl) ?_; clear hE a; intro a hE
 refine p_nil (x_norm (wp_seq ?_))
 rcases Decidable.em (k = 0) with hK0 | hK0
 ·
  subst hK0
  refine c_reg R21_1_l ?_
  refine q0 p21_1_0 hE (st_fieldAddr Try.underlying45 rfl tS3 rfl rfl) ?_; clear hE a; intro a hE
  refine q0 p21_1_1 hE (st_load1 tA3 rfl ((blk_cell B_g1 0).trans rfl)) ?_; clear hE a; intro a hE
  refine q0 p21_1_2 hE (st_eql (b := true) rfl rfl (by decide)) ?_; clear hE a; intro a hE
  refine p_nil (x_norm ?_)
  refine c_cond (t := true) hE rfl ?_
  refine c_reg R21_2_l ?_
  refine p_cons (s_row (xs := [(0, Operand.const (Value.int IntKind.u8 0))]) (vs := [(0, Value.int .u8 0)]) (cs := #[Value.int .u8 0]) p21_2_0 hE wn_none rfl Try.underlying22 rfl (by kernel_rfl) ?_)
  clear hE a; intro g4 w5 z6 B_g4 hk a hE
  have n_g1_g4 : g1 ≠ g4 := ne_new B_g1 z6
  have z_0_g4 := Nat.le_trans K_0.kept.1 z6
  replace B_g1 := kp_blk B_g1 hk (fun h => h)
  replace K_0 := K_0.then_ hk (fun _ h => h.elim)
  clear hk
  refine q0 p21_2_1 hE (st_assign rfl) ?_; clear hE a; intro a hE
  refine p_nil (x_norm (wp_ret (x_ret ?_)))
  refine ret_one (v := Value.slice (some ⟨g4, 0, none⟩) 1 1) rfl hE (.tmp rfl .nil) ?_
  have e9 : bytesF 0 l f tx = [0] := rfl
  exact ⟨_, _, _, rfl, by rw [e9]; rfl, by rw [e9]; exact own_blk9 (k := .u8) (l := [0]) B_g4 (show w.heap.size ≤ g4 from z_0_g4) rfl (Nat.le_of_ble_eq_true rfl), K_0⟩
 ·
  rcases Decidable.em (k = 1) with hK1 | hK1
  ·
   subst hK1
   have hp9 := pads_num hN
   have hl1 : l.length = 1 := hln
   refine c_reg R21_1_l ?_
   refine q0 p21_1_0 hE (st_fieldAddr Try.underlying45 rfl tS3 rfl rfl) ?_; clear hE a; intro a hE
   refine q0 p21_1_1 hE (st_load1 tA3 rfl ((blk_cell B_g1 0).trans rfl)) ?_; clear hE a; intro a hE
   refine q0 p21_1_2 hE (st_eql (b := false) rfl rfl (by decide)) ?_; clear hE a; intro a hE
   refine p_nil (x_norm ?_)
   refine c_cond (t := false) hE rfl ?_
   refine wp_skip (x_norm (c_reg R21_3_l ?_))
   refine q0 p21_3_0 hE (st_fieldAddr Try.underlying45 rfl tS3 rfl rfl) ?_; clear hE a; intro a hE
   refine q0 p21_3_1 hE (st_load1 tA3 rfl ((blk_cell B_g1 0).trans rfl)) ?_; clear hE a; intro a hE
   refine p_cons (s_call (xs := [Operand.tmp 14]) (args := [Value.int .i64 (1 : Int)]) p21_3_2 hE wn_none rfl rfl Try.func53 cl53 (parts_ok 1 (by decide) _) ?_)
   rintro e w7 ⟨rfl, hk⟩
   replace B_g1 := kp_blk B_g1 hk (fun h => h)
   replace K_0 := K_0.then_ hk (fun _ h => h.elim)
   refine ⟨_, rfl, ?_⟩; clear hE a; intro a hE
   refine q0 p21_3_3 hE (st_assign rfl) ?_; clear hE a; intro a hE
   refine p_nil (x_norm (c_reg R21_4_l ?_))
   refine q0 p21_4_0 hE (st_assign rfl) ?_; clear hE a; intro a hE
   refine p_nil (x_norm (c_reg R21_5_l ?_))
   refine q0 p21_5_0 hE (st_assign rfl) ?_; clear hE a; intro a hE
   refine p_nil (x_norm (wp_seq (c_reg R21_6_l ?_)))
   refine q0 p21_6_0 hE (st_assign rfl) ?_; clear hE a; intro a hE
   refine p_nil (x_norm (wp_block ?_))
   refine wp_loop_rounds 2 ?_
   refine (Eq.mpr (rounds_succ (n := 1)) ?_)
   refine wp_seq (c_reg R21_7_l ?_)
   refine q0 p21_7_0 hE (st_move rfl) ?_; clear hE a; intro a hE
   refine q0 p21_7_1 hE (st_move rfl) ?_; clear hE a; intro a hE
   refine q0 p21_7_2 hE (st_lenS Try.underlying9 rfl) ?_; clear hE a; intro a hE
   refine q0 p21_7_3 hE (st_lss (b := true) rfl rfl (by decide +kernel)) ?_; clear hE a; intro a hE
   refine p_nil (x_norm ?_)
   refine c_cond (t := true) hE rfl ?_
   refine wp_skip (x_norm (wp_seq (wp_block (c_reg R21_9_l ?_))))
   refine q0 p21_9_0 hE (st_move rfl) ?_; clear hE a; intro a hE
   refine q0 p21_9_1 hE (st_move rfl) ?_; clear hE a; intro a hE
   refine q0 p21_9_2 hE (st_indexV (i := 0) (x := 120) Try.underlying9 rfl rfl (by decide +kernel) (by decide +kernel)) ?_; clear hE a; intro a hE
   refine p_nil (x_norm (wp_block (c_reg R21_13_l ?_)))
   refine q0 p21_13_0 hE (st_eql (b := false) rfl rfl (by decide)) ?_; clear hE a; intro a hE
   refine q0 p21_13_1 hE (st_assign rfl) ?_; clear hE a; intro a hE
   refine p_nil (x_norm ?_)
   refine c_cond (t := false) hE rfl ?_
   refine c_reg R21_15_l ?_
   refine q0 p21_15_0 hE (st_eql (b := false) rfl rfl (by decide)) ?_; clear hE a; intro a hE
   refine q0 p21_15_1 hE (st_assign rfl) ?_; clear hE a; intro a hE
   refine p_nil (x_norm ?_)
   refine c_cond (t := false) hE rfl ?_
   refine c_reg R21_17_l ?_
   refine q0 p21_17_0 hE (st_eql (b := true) rfl rfl (by decide)) ?_; clear hE a; intro a hE
   refine q0 p21_17_1 hE (st_assign rfl) ?_; clear hE a; intro a hE
   refine p_nil (x_norm ?_)
   refine c_cond (t := true) hE rfl ?_
   refine c_regL R21_18_l ?_
   refine q0 p21_18_0 hE (st_fieldAddr Try.underlying45 rfl tS42 rfl rfl) ?_; clear hE a; intro a hE
   refine q0 p21_18_1 hE (st_load1 tA42 rfl ((blk_cell B_g1 1).trans rfl)) ?_; clear hE a; intro a hE
   refine q0 p21_18_2 hE (st_indexAddrC (i := 0) Try.underlying42 tS3 (hF _ K_0) rfl rfl (by omega)) ?_; clear hE a; intro a hE
   refine q0 (v := Value.int .i64 (rd l (0 : Int))) p21_18_3 hE (st_loadC (i := 0) tA3 (hF _ K_0) (by omega) rfl) ?_; clear hE a; intro a hE
   obtain ⟨qq, hqq⟩ : ∃ q : Nat, rd l (0 : Int) = (q : Int) := ⟨(rd l (0 : Int)).toNat, by omega⟩
   rw [hqq] at hE
   refine p_cons (s_make (s := 1) (q := qq) p21_18_4 hE wn_none rfl Try.underlying22 tZ5 eD5 rfl rfl (by omega) (by omega) rfl ?_)
   clear hE a; intro g8 w9 z10 B_g8 hk a hE
   have n_g1_g8 : g1 ≠ g8 := ne_new B_g1 z10
   have z_0_g8 := Nat.le_trans K_0.kept.1 z10
   have zz9 := Nat.le_trans K_0.kept.1 z10
   replace B_g1 := kp_blk B_g1 hk (fun h => h)
   replace K_0 := K_0.then_ hk (fun _ h => h.elim)
   clear hk
   have O_m := own_blk9 (k := .u8) (l := List.replicate qq 0) B_g8 (show w.heap.size ≤ g8 from zz9) (by simp [encs]) (by rw [List.length_replicate]; show qq ≤ maxLen; unfold maxLen; omega)
   rw [List.length_replicate] at O_m
   have Nb_m_g1 : ¬ OB (some ⟨g8, 0, none⟩) g1 := fun h => by have h := ob_blk.1 h; exact (Ne.symm n_g1_g8) h
   have Z_0_m : ∀ k, OB (some ⟨g8, 0, none⟩) k → (fun _ => False) k ∨ w.heap.size ≤ k := fun k h => by have h := ob_blk.1 h; subst h; exact Or.inr zz9
   refine q0 p21_18_5 hE (st_assign rfl) ?_; clear hE a; intro a hE
   refine p_nil (x_normB (x_normB (x_norm (c_regL R21_8_l ?_))))
   refine q0 p21_8_0 hE (st_move rfl) ?_; clear hE a; intro a hE
   refine q0 p21_8_1 hE (st_add (z := 1) rfl rfl (by decide)) ?_; clear hE a; intro a hE
   refine q0 p21_8_2 hE (st_assign rfl) ?_; clear hE a; intro a hE
   refine p_nil (x_norm ?_)
   refine (Eq.mpr (rounds_succ (n := 0)) ?_)
   refine wp_seq (c_reg R21_7_l ?_)
   refine q0 p21_7_0 hE (st_move rfl) ?_; clear hE a; intro a hE
   refine q0 p21_7_1 hE (st_move rfl) ?_; clear hE a; intro a hE
   refine q0 p21_7_2 hE (st_lenS Try.underlying9 rfl) ?_; clear hE a; intro a hE
   refine q0 p21_7_3 hE (st_lss (b := false) rfl rfl (by decide +kernel)) ?_; clear hE a; intro a hE
   refine p_nil (x_norm ?_)
   refine c_cond (t := false) hE rfl ?_
   refine wp_exit (x_exit (x_exit (x_in (x_norm (c_reg R21_19_l ?_)))))
   refine q0 p21_19_0 hE (st_fieldAddr Try.underlying45 rfl tS3 rfl rfl) ?_; clear hE a; intro a hE
   refine q0 p21_19_1 hE (st_load1 tA3 rfl ((blk_cell B_g1 0).trans rfl)) ?_; clear hE a; intro a hE
   refine q0 p21_19_2 hE (st_conv (z := (1 : Int)) (by kernel_rfl) Try.underlying5 rfl (wr_u8 _ (by omega) (by omega))) ?_; clear hE a; intro a hE
   refine q0 p21_19_3 hE (st_move rfl) ?_; clear hE a; intro a hE
   refine q0 p21_19_4 hE (st_len Try.underlying22 rfl) ?_; clear hE a; intro a hE
   refine q0 p21_19_5 hE (st_conv (z := ((qq : Int) % 256)) (by kernel_rfl) Try.underlying5 rfl (IntKind.wrap_u8 _)) ?_; clear hE a; intro a hE
   refine p_cons (s_row (xs := [(0, Operand.tmp 64), (1, Operand.tmp 67)]) (vs := [(0, Value.int .u8 (1 : Int)), (1, Value.int .u8 ((qq : Int) % 256))]) (cs := #[Value.int .u8 (1 : Int), Value.int .u8 ((qq : Int) % 256)]) p21_19_6 hE wn_none rfl Try.underlying22 rfl (by kernel_rfl) ?_)
   clear hE a; intro g11 w12 z13 B_g11 hk a hE
   have n_g1_g11 : g1 ≠ g11 := ne_new B_g1 z13
   have z_0_g11 := Nat.le_trans K_0.kept.1 z13
   have Nb_m_g11 : ¬ OB (some ⟨g8, 0, none⟩) g11 := fun h => by have := (own_ob O_m h).2; omega
   replace B_g1 := kp_blk B_g1 hk (fun h => h)
   replace O_m := own_keep O_m hk (fun _ _ h => h)
   replace K_0 := K_0.then_ hk (fun _ h => h.elim)
   clear hk
   refine q0 p21_19_7 hE (st_move rfl) ?_; clear hE a; intro a hE
   have O_q14 := own_blk9 (k := .u8) (l := [(1 : Int), ((qq : Int) % 256)]) B_g11 (show w.heap.size ≤ g11 from z_0_g11) rfl (Nat.le_of_ble_eq_true rfl)
   have Nb_q14_g1 : ¬ OB (some ⟨g11, 0, none⟩) g1 := fun h => by have h := ob_blk.1 h; exact (Ne.symm n_g1_g11) h
   have Z_0_q14 : ∀ k, OB (some ⟨g11, 0, none⟩) k → (fun _ => False) k ∨ w.heap.size ≤ k := fun k h => by have h := ob_blk.1 h; subst h; exact Or.inr z_0_g11
   have NN_q14_m : ∀ k, OB (some ⟨g11, 0, none⟩) k → ¬ OB (some ⟨g8, 0, none⟩) k := fun k h h2 => by have h := ob_blk.1 h; subst h; exact Nb_m_g11 h2
   have NN_m_q14 : ∀ k, OB (some ⟨g8, 0, none⟩) k → ¬ OB (some ⟨g11, 0, none⟩) k := fun k h h2 => NN_q14_m k h2 h
   refine p_cons (s_appendC (xs := [(1 : Int), ((qq : Int) % 256)]) (ys := (List.replicate qq (0 : Int))) p21_19_8 hE wn_none rfl Try.underlying22 eD5 rfl O_q14 rfl (own_told O_m) (by omega) (by omega) K_0.kept.1 ?_)
   clear hE a; intro Aq1415 cq1416 w17 O_q14' hk hat a hE
   have Nb_q14_g1' := grow_n Nb_q14_g1 (blk_lt B_g1) hat
   have NN_m_q14' : ∀ k, OB (some ⟨g8, 0, none⟩) k → ¬ OB Aq1415 k := fun k h h2 => (hat k h2).elim (NN_m_q14 k h) (fun h3 => by have := (own_ob O_m h).2; omega)
   have Z_0_q14' := grow_z Z_0_q14 K_0.kept.1 hat
   replace B_g1 := kp_blk B_g1 hk Nb_q14_g1
   replace O_m := own_keep O_m hk NN_m_q14
   replace K_0 := K_0.then_ hk Z_0_q14
   replace Nb_q14_g1 := Nb_q14_g1'
   replace NN_m_q14 := NN_m_q14'
   replace NN_q14_m : ∀ k, OB Aq1415 k → ¬ OB (some ⟨g8, 0, none⟩) k := fun k h h2 => NN_m_q14 k h2 h
   replace Z_0_q14 := Z_0_q14'
   replace O_q14 : w17.ownsRow _ 5 1 (.slice Aq1415 (2 + qq) cq1416) (2 + qq) (encs (Value.int .u8) ([(1 : Int), ((qq : Int) % 256)] ++ (List.replicate qq (0 : Int)))) := O_q14'
   clear O_q14' hk hat
   refine q0 p21_19_9 hE (st_assign rfl) ?_; clear hE a; intro a hE
   refine p_nil (x_norm (wp_ret ?_))
   refine ret_one (v := Value.slice Aq1415 (2 + qq) cq1416) rfl hE (.tmp rfl .nil) ?_
   have eb : List.replicate qq (0 : Int) = bodyF 1 l f tx := by unfold bodyF; rw [if_pos rfl, hqq, Int.toNat_natCast]
   have en : qq = (bodyF 1 l f tx).length := by rw [← eb, List.length_replicate]
   have e9 : ([(1 : Int), ((qq : Int) % 256)] ++ (List.replicate qq (0 : Int))) = bytesF 1 l f tx := by unfold bytesF; rw [if_neg (by omega), ← en, ← eb] <;> rfl
   have hn9 : (2 + qq) = (bytesF 1 l f tx).length := by have := congrArg List.length e9; rw [← this]; simp only [List.length_append, List.length_cons, List.length_nil, List.length_replicate]
   rw [e9] at O_q14
   exact ⟨_, _, _, rfl, hn9, O_q14, K_0⟩
  ·
   rcases Decidable.em (k = 2) with hK2 | hK2
   ·
    subst hK2
    refine c_reg R21_1_l ?_
    refine q0 p21_1_0 hE (st_fieldAddr Try.underlying45 rfl tS3 rfl rfl) ?_; clear hE a; intro a hE
    refine q0 p21_1_1 hE (st_load1 tA3 rfl ((blk_cell B_g1 0).trans rfl)) ?_; clear hE a; intro a hE
    refine q0 p21_1_2 hE (st_eql (b := false) rfl rfl (by decide)) ?_; clear hE a; intro a hE
    refine p_nil (x_norm ?_)
    refine c_cond (t := false) hE rfl ?_
    refine wp_skip (x_norm (c_reg R21_3_l ?_))
    refine q0 p21_3_0 hE (st_fieldAddr Try.underlying45 rfl tS3 rfl rfl) ?_; clear hE a; intro a hE
    refine q0 p21_3_1 hE (st_load1 tA3 rfl ((blk_cell B_g1 0).trans rfl)) ?_; clear hE a; intro a hE
    refine p_cons (s_call (xs := [Operand.tmp 14]) (args := [Value.int .i64 (2 : Int)]) p21_3_2 hE wn_none rfl rfl Try.func53 cl53 (parts_ok 2 (by decide) _) ?_)
    rintro e w18 ⟨rfl, hk⟩
    replace B_g1 := kp_blk B_g1 hk (fun h => h)
    replace K_0 := K_0.then_ hk (fun _ h => h.elim)
    refine ⟨_, rfl, ?_⟩; clear hE a; intro a hE
    refine q0 p21_3_3 hE (st_assign rfl) ?_; clear hE a; intro a hE
    refine p_nil (x_norm (c_reg R21_4_l ?_))
    refine q0 p21_4_0 hE (st_assign rfl) ?_; clear hE a; intro a hE
    refine p_nil (x_norm (c_reg R21_5_l ?_))
    refine q0 p21_5_0 hE (st_assign rfl) ?_; clear hE a; intro a hE
    refine p_nil (x_norm (wp_seq (c_reg R21_6_l ?_)))
    refine q0 p21_6_0 hE (st_assign rfl) ?_; clear hE a; intro a hE
    refine p_nil (x_norm (wp_block ?_))
    refine wp_loop_rounds 2 ?_
    refine (Eq.mpr (rounds_succ (n := 1)) ?_)
    refine wp_seq (c_reg R21_7_l ?_)
    refine q0 p21_7_0 hE (st_move rfl) ?_; clear hE a; intro a hE
    refine q0 p21_7_1 hE (st_move rfl) ?_; clear hE a; intro a hE
    refine q0 p21_7_2 hE (st_lenS Try.underlying9 rfl) ?_; clear hE a; intro a hE
    refine q0 p21_7_3 hE (st_lss (b := true) rfl rfl (by decide +kernel)) ?_; clear hE a; intro a hE
    refine p_nil (x_norm ?_)
    refine c_cond (t := true) hE rfl ?_
    refine wp_skip (x_norm (wp_seq (wp_block (c_reg R21_9_l ?_))))
    refine q0 p21_9_0 hE (st_move rfl) ?_; clear hE a; intro a hE
    refine q0 p21_9_1 hE (st_move rfl) ?_; clear hE a; intro a hE
    refine q0 p21_9_2 hE (st_indexV (i := 0) (x := 116) Try.underlying9 rfl rfl (by decide +kernel) (by decide +kernel)) ?_; clear hE a; intro a hE
    refine p_nil (x_norm (wp_block (c_reg R21_13_l ?_)))
    refine q0 p21_13_0 hE (st_eql (b := false) rfl rfl (by decide)) ?_; clear hE a; intro a hE
    refine q0 p21_13_1 hE (st_assign rfl) ?_; clear hE a; intro a hE
    refine p_nil (x_norm ?_)
    refine c_cond (t := false) hE rfl ?_
    refine c_reg R21_15_l ?_
    refine q0 p21_15_0 hE (st_eql (b := true) rfl rfl (by decide)) ?_; clear hE a; intro a hE
    refine q0 p21_15_1 hE (st_assign rfl) ?_; clear hE a; intro a hE
    refine p_nil (x_norm ?_)
    refine c_cond (t := true) hE rfl ?_
    refine c_regL R21_16_l ?_
    refine q0 p21_16_0 hE (st_move rfl) ?_; clear hE a; intro a hE
    refine q0 p21_16_1 hE (st_fieldAddr Try.underlying45 rfl tS22 rfl rfl) ?_; clear hE a; intro a hE
    refine q0 p21_16_2 hE (st_load1 tA22 rfl ((blk_cell B_g1 18).trans rfl)) ?_; clear hE a; intro a hE
    have O_b19 := own_none w18 w.heap.size 5 1
    have Nb_b19_g1 : ¬ OB none g1 := ob_nil
    have Z_0_b19 : ∀ k, OB none k → (fun _ => False) k ∨ w.heap.size ≤ k := fun k h => absurd h ob_nil
    refine p_cons (s_appendC (xs := []) (ys := tx) p21_16_3 hE wn_none rfl Try.underlying22 eD5 rfl O_b19 rfl (hG _ K_0) (by omega) (by omega) K_0.kept.1 ?_)
    clear hE a; intro Ab1920 cb1921 w22 O_b19' hk hat a hE
    rw [Nat.zero_add] at hE O_b19'
    rw [List.nil_append] at O_b19'
    have Nb_b19_g1' := grow_n Nb_b19_g1 (blk_lt B_g1) hat
    have Z_0_b19' := grow_z Z_0_b19 K_0.kept.1 hat
    replace B_g1 := kp_blk B_g1 hk Nb_b19_g1
    replace K_0 := K_0.then_ hk Z_0_b19
    replace Nb_b19_g1 := Nb_b19_g1'
    replace Z_0_b19 := Z_0_b19'
    replace O_b19 : w22.ownsRow _ 5 1 (.slice Ab1920 tx.length cb1921) tx.length (encs (Value.int .u8) tx) := O_b19'
    clear O_b19' hk hat
    refine q0 p21_16_4 hE (st_assign rfl) ?_; clear hE a; intro a hE
    refine p_nil (x_normB (x_normB (x_norm (c_regL R21_8_l ?_))))
    refine q0 p21_8_0 hE (st_move rfl) ?_; clear hE a; intro a hE
    refine q0 p21_8_1 hE (st_add (z := 1) rfl rfl (by decide)) ?_; clear hE a; intro a hE
    refine q0 p21_8_2 hE (st_assign rfl) ?_; clear hE a; intro a hE
    refine p_nil (x_norm ?_)
    refine (Eq.mpr (rounds_succ (n := 0)) ?_)
    refine wp_seq (c_reg R21_7_l ?_)
    refine q0 p21_7_0 hE (st_move rfl) ?_; clear hE a; intro a hE
    refine q0 p21_7_1 hE (st_move rfl) ?_; clear hE a; intro a hE
    refine q0 p21_7_2 hE (st_lenS Try.underlying9 rfl) ?_; clear hE a; intro a hE
    refine q0 p21_7_3 hE (st_lss (b := false) rfl rfl (by decide +kernel)) ?_; clear hE a; intro a hE
    refine p_nil (x_norm ?_)
    refine c_cond (t := false) hE rfl ?_
    refine wp_exit (x_exit (x_exit (x_in (x_norm (c_reg R21_19_l ?_)))))
    refine q0 p21_19_0 hE (st_fieldAddr Try.underlying45 rfl tS3 rfl rfl) ?_; clear hE a; intro a hE
    refine q0 p21_19_1 hE (st_load1 tA3 rfl ((blk_cell B_g1 0).trans rfl)) ?_; clear hE a; intro a hE
    refine q0 p21_19_2 hE (st_conv (z := (2 : Int)) (by kernel_rfl) Try.underlying5 rfl (wr_u8 _ (by omega) (by omega))) ?_; clear hE a; intro a hE
    refine q0 p21_19_3 hE (st_move rfl) ?_; clear hE a; intro a hE
    refine q0 p21_19_4 hE (st_len Try.underlying22 rfl) ?_; clear hE a; intro a hE
    refine q0 p21_19_5 hE (st_conv (z := ((tx.length : Int) % 256)) (by kernel_rfl) Try.underlying5 rfl (IntKind.wrap_u8 _)) ?_; clear hE a; intro a hE
    refine p_cons (s_row (xs := [(0, Operand.tmp 64), (1, Operand.tmp 67)]) (vs := [(0, Value.int .u8 (2 : Int)), (1, Value.int .u8 ((tx.length : Int) % 256))]) (cs := #[Value.int .u8 (2 : Int), Value.int .u8 ((tx.length : Int) % 256)]) p21_19_6 hE wn_none rfl Try.underlying22 rfl (by kernel_rfl) ?_)
    clear hE a; intro g23 w24 z25 B_g23 hk a hE
    have n_g1_g23 : g1 ≠ g23 := ne_new B_g1 z25
    have z_0_g23 := Nat.le_trans K_0.kept.1 z25
    have Nb_b19_g23 : ¬ OB Ab1920 g23 := fun h => by have := (own_ob O_b19 h).2; omega
    replace B_g1 := kp_blk B_g1 hk (fun h => h)
    replace O_b19 := own_keep O_b19 hk (fun _ _ h => h)
    replace K_0 := K_0.then_ hk (fun _ h => h.elim)
    clear hk
    refine q0 p21_19_7 hE (st_move rfl) ?_; clear hE a; intro a hE
    have O_q26 := own_blk9 (k := .u8) (l := [(2 : Int), ((tx.length : Int) % 256)]) B_g23 (show w.heap.size ≤ g23 from z_0_g23) rfl (Nat.le_of_ble_eq_true rfl)
    have Nb_q26_g1 : ¬ OB (some ⟨g23, 0, none⟩) g1 := fun h => by have h := ob_blk.1 h; exact (Ne.symm n_g1_g23) h
    have Z_0_q26 : ∀ k, OB (some ⟨g23, 0, none⟩) k → (fun _ => False) k ∨ w.heap.size ≤ k := fun k h => by have h := ob_blk.1 h; subst h; exact Or.inr z_0_g23
    have NN_q26_b19 : ∀ k, OB (some ⟨g23, 0, none⟩) k → ¬ OB Ab1920 k := fun k h h2 => by have h := ob_blk.1 h; subst h; exact Nb_b19_g23 h2
    have NN_b19_q26 : ∀ k, OB Ab1920 k → ¬ OB (some ⟨g23, 0, none⟩) k := fun k h h2 => NN_q26_b19 k h2 h
    refine p_cons (s_appendC (xs := [(2 : Int), ((tx.length : Int) % 256)]) (ys := tx) p21_19_8 hE wn_none rfl Try.underlying22 eD5 rfl O_q26 rfl (own_told O_b19) (by omega) (by omega) K_0.kept.1 ?_)
    clear hE a; intro Aq2627 cq2628 w29 O_q26' hk hat a hE
    have Nb_q26_g1' := grow_n Nb_q26_g1 (blk_lt B_g1) hat
    have NN_b19_q26' : ∀ k, OB Ab1920 k → ¬ OB Aq2627 k := fun k h h2 => (hat k h2).elim (NN_b19_q26 k h) (fun h3 => by have := (own_ob O_b19 h).2; omega)
    have Z_0_q26' := grow_z Z_0_q26 K_0.kept.1 hat
    replace B_g1 := kp_blk B_g1 hk Nb_q26_g1
    replace O_b19 := own_keep O_b19 hk NN_b19_q26
    replace K_0 := K_0.then_ hk Z_0_q26
    replace Nb_q26_g1 := Nb_q26_g1'
    replace NN_b19_q26 := NN_b19_q26'
    replace NN_q26_b19 : ∀ k, OB Aq2627 k → ¬ OB Ab1920 k := fun k h h2 => NN_b19_q26 k h2 h
    replace Z_0_q26 := Z_0_q26'
    replace O_q26 : w29.ownsRow _ 5 1 (.slice Aq2627 (2 + tx.length) cq2628) (2 + tx.length) (encs (Value.int .u8) ([(2 : Int), ((tx.length : Int) % 256)] ++ tx)) := O_q26'
    clear O_q26' hk hat
    refine q0 p21_19_9 hE (st_assign rfl) ?_; clear hE a; intro a hE
    refine p_nil (x_norm (wp_ret ?_))
    refine ret_one (v := Value.slice Aq2627 (2 + tx.length) cq2628) rfl hE (.tmp rfl .nil) ?_
    have eb : tx = bodyF 2 l f tx := (body_two l f tx).symm
    have en : tx.length = (bodyF 2 l f tx).length := by rw [← eb]
    have e9 : ([(2 : Int), ((tx.length : Int) % 256)] ++ tx) = bytesF 2 l f tx := by unfold bytesF; rw [if_neg (by omega), ← en, ← eb] <;> rfl
    have hn9 : (2 + tx.length) = (bytesF 2 l f tx).length := by have := congrArg List.length e9; rw [← this]; simp only [List.length_append, List.length_cons, List.length_nil, List.length_replicate]
    rw [e9] at O_q26
    exact ⟨_, _, _, rfl, hn9, O_q26, K_0⟩
   ·
    have hfe := factE_k (show 3 ≤ k by omega) hk9
    have hps := (parts_facts k hk9).2.2.2.1
    have hnf := num_fits hN
    have htx0 : tx = [] := ht2.resolve_right hK2
    refine c_reg R21_1_l ?_
    refine q0 p21_1_0 hE (st_fieldAddr Try.underlying45 rfl tS3 rfl rfl) ?_; clear hE a; intro a hE
    refine q0 p21_1_1 hE (st_load1 tA3 rfl ((blk_cell B_g1 0).trans rfl)) ?_; clear hE a; intro a hE
    refine q0 p21_1_2 hE (st_eql (b := false) rfl rfl (decide_eq_false (by omega))) ?_; clear hE a; intro a hE
    refine p_nil (x_norm ?_)
    refine c_cond (t := false) hE rfl ?_
    refine wp_skip (x_norm (c_reg R21_3_l ?_))
    refine q0 p21_3_0 hE (st_fieldAddr Try.underlying45 rfl tS3 rfl rfl) ?_; clear hE a; intro a hE
    refine q0 p21_3_1 hE (st_load1 tA3 rfl ((blk_cell B_g1 0).trans rfl)) ?_; clear hE a; intro a hE
    refine p_cons (s_call (xs := [Operand.tmp 14]) (args := [Value.int .i64 (k : Int)]) p21_3_2 hE wn_none rfl rfl Try.func53 cl53 (parts_ok k hk9 _) ?_)
    rintro e w30 ⟨rfl, hk⟩
    replace B_g1 := kp_blk B_g1 hk (fun h => h)
    replace K_0 := K_0.then_ hk (fun _ h => h.elim)
    refine ⟨_, rfl, ?_⟩; clear hE a; intro a hE
    refine q0 p21_3_3 hE (st_assign rfl) ?_; clear hE a; intro a hE
    refine p_nil (x_norm (c_reg R21_4_l ?_))
    refine q0 p21_4_0 hE (st_assign rfl) ?_; clear hE a; intro a hE
    refine p_nil (x_norm (c_reg R21_5_l ?_))
    refine q0 p21_5_0 hE (st_assign rfl) ?_; clear hE a; intro a hE
    refine p_nil (x_norm (wp_seq (c_reg R21_6_l ?_)))
    refine q0 p21_6_0 hE (st_assign rfl) ?_; clear hE a; intro a hE
    refine p_nil (x_norm (wp_block ?_))
    have O_b := own_none w30 w.heap.size 5 1
    have Nb_b_g1 : ¬ OB none g1 := ob_nil
    have Z_0_b : ∀ k, OB none k → (fun _ => False) k ∨ w.heap.size ≤ k := fun k h => absurd h ob_nil
    refine c_loop (α := Nat) (fun i a W => ∃ (A_b : Option Addr) (c_b : Nat) (n_b : Nat), En 71 a [(0, Value.agg (([Value.int .i64 (k : Int), Value.slice B l.length q] ++ b16 f ++ [Value.slice T tx.length ct])).toArray), (1, Value.pointer (some ⟨g1, 0, none⟩)), (2, Value.slice none 0 0), (11, Value.bool false), (3, Value.string (partsF k)), (6, Value.int .i64 (i : Int)), (5, Value.int .i64 (cntF (partsF k) i : Int)), (4, Value.slice A_b n_b c_b)] ∧ i ≤ (partsF k).size ∧ n_b ≤ 16 * i ∧ W.heap[g1]? = some (.cells (([Value.int .i64 (k : Int), Value.slice B l.length q] ++ b16 f ++ [Value.slice T tx.length ct])).toArray 45 (0, 0)) ∧ n_b = (putP k l f i).length ∧ W.ownsRow w.heap.size 5 1 (.slice A_b n_b c_b) n_b (encs (Value.int .u8) (putP k l f i)) ∧ ¬ OB A_b g1 ∧ (∀ k, OB A_b k → (fun _ => False) k ∨ w.heap.size ≤ k) ∧ Kp w W (fun _ => False)) (fun i => (partsF k).size - i) (0) ?_ ?_
    ·
     exact ⟨none, 0, 0, En.sub hE ⟨rfl, rfl, rfl, rfl, rfl, rfl, rfl, rfl, trivial⟩, Nat.zero_le _, (Nat.le_refl _), B_g1, rfl, O_b, Nb_b_g1, Z_0_b, K_0⟩
    ·
     clear hE a
     rintro i a w31 ⟨A_b, c_b, n_b, hE, hi9, hbl9, B_g1, hn_b, O_b, Nb_b_g1, Z_0_b, K_0⟩
     have hcl9 := cnt_le (partsF k) i
     refine wp_seq (c_reg R21_7_l ?_)
     refine q0 p21_7_0 hE (st_move rfl) ?_; clear hE a; intro a hE
     refine q0 p21_7_1 hE (st_move rfl) ?_; clear hE a; intro a hE
     refine q0 p21_7_2 hE (st_lenS Try.underlying9 rfl) ?_; clear hE a; intro a hE
     rcases Decidable.em ((i : Int) < ((partsF k).size : Int)) with hc32 | hc32
     ·
      refine p_cons (s_still (v := Value.bool true) p21_7_3 hE wn_none rfl (st_lss rfl rfl (decide_eq_true hc32)) ?_); clear hE a; intro a hE
      refine p_nil (x_norm ?_)
      refine c_cond (t := true) hE rfl ?_
      refine wp_skip (x_norm (wp_seq (wp_block (c_reg R21_9_l ?_))))
      have hil : i < (partsF k).size := by omega
      have hfi := hfe i hil
      refine q0 p21_9_0 hE (st_move rfl) ?_; clear hE a; intro a hE
      refine q0 p21_9_1 hE (st_move rfl) ?_; clear hE a; intro a hE
      refine q0 p21_9_2 hE (st_indexV (i := i) Try.underlying9 rfl rfl (by omega) rfl) ?_; clear hE a; intro a hE
      refine p_nil (x_norm (wp_block (c_reg R21_13_l ?_)))
      rcases Decidable.em ((bt (partsF k) (i : Int)) = 97) with hc33 | hc33
      ·
       refine p_cons (s_still (v := Value.bool true) p21_13_0 hE wn_none rfl (st_eql rfl rfl (decide_eq_true hc33)) ?_); clear hE a; intro a hE
       refine q0 p21_13_1 hE (st_assign rfl) ?_; clear hE a; intro a hE
       refine p_nil (x_norm ?_)
       refine c_cond (t := true) hE rfl ?_
       refine c_regL R21_14_l ?_
       refine q0 p21_14_0 hE (st_move rfl) ?_; clear hE a; intro a hE
       refine q0 p21_14_1 hE (st_fieldAddr Try.underlying45 rfl tS43 rfl rfl) ?_; clear hE a; intro a hE
       refine q0 p21_14_2 hE (st_sliceA Try.underlying43 tS5 rfl) ?_; clear hE a; intro a hE
       refine p_cons (s_appendC (xs := (putP k l f i)) (ys := (l16 f)) p21_14_3 hE wn_none rfl Try.underlying22 eD5 rfl O_b rfl (C_blk (k := .u8) (l := (l16 f)) (off := 2) B_g1 ⟨rfl, Nat.le_of_ble_eq_true rfl⟩ rfl) (by omega) (by omega) K_0.kept.1 ?_)
       clear hE a; intro Ab34 cb35 w36 O_b' hk hat a hE
       have Nb_b_g1' := grow_n Nb_b_g1 (blk_lt B_g1) hat
       have Z_0_b' := grow_z Z_0_b K_0.kept.1 hat
       replace B_g1 := kp_blk B_g1 hk Nb_b_g1
       replace K_0 := K_0.then_ hk Z_0_b
       replace Nb_b_g1 := Nb_b_g1'
       replace Z_0_b := Z_0_b'
       replace O_b : w36.ownsRow _ 5 1 (.slice Ab34 (n_b + 16) cb35) (n_b + 16) (encs (Value.int .u8) ((putP k l f i) ++ (l16 f))) := O_b'
       clear O_b' hk hat
       refine q0 p21_14_4 hE (st_assign rfl) ?_; clear hE a; intro a hE
       refine p_nil (x_normB (x_normB (x_norm (c_regL R21_8_l ?_))))
       refine q0 p21_8_0 hE (st_move rfl) ?_; clear hE a; intro a hE
       refine q0 p21_8_1 hE (st_add (z := (i : Int) + 1) rfl rfl (wr_i64 _ (by omega) (by omega))) ?_; clear hE a; intro a hE
       refine q0 p21_8_2 hE (st_assign rfl) ?_; clear hE a; intro a hE
       refine p_nil (x_norm ?_)
       have hcn9 : cntF (partsF k) (i + 1) = cntF (partsF k) i := cnt_not (by rw [(hfi.2.2.1 hc33).2.2]; omega)
       have e9 : ((putP k l f i) ++ (l16 f)) = putP k l f (i + 1) := by show _ = putP k l f i ++ (if _ then _ else _); rw [if_pos hc33]
       rw [e9] at O_b
       exact ⟨i + 1, by omega, Ab34, cb35, (n_b + 16), En.sub hE ⟨rfl, rfl, rfl, rfl, rfl, rfl, (by rw [hcn9]; rfl), rfl, trivial⟩, (by omega), (by omega), B_g1, (by have h8 := congrArg List.length e9; rw [List.length_append, ← hn_b] at h8; first | (rw [l16_len9] at h8; omega) | (rw [dig_len8 hs8 hn8] at h8; omega)), O_b, Nb_b_g1, Z_0_b, K_0⟩
      ·
       refine p_cons (s_still (v := Value.bool false) p21_13_0 hE wn_none rfl (st_eql rfl rfl (decide_eq_false hc33)) ?_); clear hE a; intro a hE
       refine q0 p21_13_1 hE (st_assign rfl) ?_; clear hE a; intro a hE
       refine p_nil (x_norm ?_)
       refine c_cond (t := false) hE rfl ?_
       refine c_reg R21_15_l ?_
       refine q0 p21_15_0 hE (st_eql (b := false) rfl rfl (decide_eq_false hfi.1)) ?_; clear hE a; intro a hE
       refine q0 p21_15_1 hE (st_assign rfl) ?_; clear hE a; intro a hE
       refine p_nil (x_norm ?_)
       refine c_cond (t := false) hE rfl ?_
       refine c_reg R21_17_l ?_
       refine q0 p21_17_0 hE (st_eql (b := false) rfl rfl (decide_eq_false hfi.2.1)) ?_; clear hE a; intro a hE
       refine q0 p21_17_1 hE (st_assign rfl) ?_; clear hE a; intro a hE
       refine p_nil (x_norm ?_)
       refine c_cond (t := false) hE rfl ?_
       obtain ⟨hs8, hc8, hz8⟩ := hfi.2.2.2.1 hc33
       have hnf8 := hnf _ hc8
       have hfb8 : 0 ≤ (rd l (cntF (partsF k) i : Int)) ∧ (rd l (cntF (partsF k) i : Int)) < 4294967296 := by
        simp only [fitsF, Bool.and_eq_true, List.all_eq_true, decide_eq_true_eq] at hnf8
        have h1 := hnf8.2 (rd l (cntF (partsF k) i : Int)) (by simp)
        have h2 := Go.Proofs.Ytgpclehnomkbmaa.Pk.span_bd (rd (sizesF k) (cntF (partsF k) i : Int))
        omega
       have hsz8 := szF_cases (bt (partsF k) (i : Int))
       refine c_drawS (S := fun W => W.heap[g1]? = some (.cells (([Value.int .i64 (k : Int), Value.slice B l.length q] ++ b16 f ++ [Value.slice T tx.length ct])).toArray 45 (0, 0)) ∧ Kd.C (Kd.int .i64) W B l.length l ∧ True) rfl rfl (listed := #[false, false, false, false, false, false, false, false, false, false, false, false, false, false, false]) rfl ?_
       intro w37 hh hk
       replace B_g1 := kp_blk B_g1 hk (fun h => h)
       replace O_b := own_keep O_b hk (fun _ _ h => h)
       replace K_0 := K_0.then_ hk (fun _ h => h.elim)
       clear hh hk
       refine Rv.dq (v := Value.string (partsF k)) p21_10_0 ns21_10 hE wn_none ⟨B_g1, (hF _ K_0), trivial⟩ (fun W hS => (st_move rfl)) ?_; clear hE a; intro a hE
       refine Rv.dq (v := Value.int .i64 (i : Int)) p21_10_1 ns21_10 hE wn_none ⟨B_g1, (hF _ K_0), trivial⟩ (fun W hS => (st_move rfl)) ?_; clear hE a; intro a hE
       refine Rv.dq (v := Value.int .u8 (bt (partsF k) (i : Int))) p21_10_2 ns21_10 hE wn_none ⟨B_g1, (hF _ K_0), trivial⟩ (fun W hS => (st_indexV (i := i) Try.underlying9 rfl rfl (by omega) rfl)) ?_; clear hE a; intro a hE
       refine Rv.dq (v := Value.pointer (some ⟨g1, 1, none⟩)) p21_10_4 ns21_10 hE wn_none ⟨B_g1, (hF _ K_0), trivial⟩ (fun W hS => (st_fieldAddr Try.underlying45 rfl tS42 rfl rfl)) ?_; clear hE a; intro a hE
       refine Rv.dq (v := Value.slice B l.length q) p21_10_5 ns21_10 hE wn_none ⟨B_g1, (hF _ K_0), trivial⟩ (fun W hS => (st_load1 tA42 rfl ((blk_cell hS.1 1).trans rfl))) ?_; clear hE a; intro a hE
       refine Rv.dq (v := Value.int .i64 (cntF (partsF k) i : Int)) p21_10_6 ns21_10 hE wn_none ⟨B_g1, (hF _ K_0), trivial⟩ (fun W hS => (st_move rfl)) ?_; clear hE a; intro a hE
       refine Rv.dq (v := Value.pointer (some (ea B (cntF (partsF k) i)))) p21_10_7 ns21_10 hE wn_none ⟨B_g1, (hF _ K_0), trivial⟩ (fun W hS => (st_indexAddrS (i := cntF (partsF k) i) Try.underlying42 tS3 (C_at (hF _ K_0) (show cntF (partsF k) i < _ by omega)).1 rfl rfl (by omega))) ?_; clear hE a; intro a hE
       refine Rv.dq (v := Value.int .i64 (rd l (cntF (partsF k) i : Int))) p21_10_8 ns21_10 hE wn_none ⟨B_g1, (hF _ K_0), trivial⟩ (fun W hS => (st_loadC (i := cntF (partsF k) i) tA3 (hS.2.1) (by omega) rfl)) ?_; clear hE a; intro a hE
       refine d_one (by kernel_rfl) rfl (s_call (xs := [Operand.tmp 28]) (args := [Value.int .u8 (bt (partsF k) (i : Int))]) p21_10_3 hE wn_none rfl rfl Try.func58 cl58 (size_any (bt (partsF k) (i : Int)) _) ?_)
       rintro e w38 ⟨rfl, hk⟩
       replace B_g1 := kp_blk B_g1 hk (fun h => h)
       replace O_b := own_keep O_b hk (fun _ _ h => h)
       replace K_0 := K_0.then_ hk (fun _ h => h.elim)
       refine ⟨_, rfl, ?_⟩; clear hE a; intro a hE
       refine ⟨⟨B_g1, (hF _ K_0), trivial⟩, ?_⟩
       have hnb_g1 := blk_lt B_g1
       have hnz_0 := K_0.kept.1
       have hno_b := fun k (h : OB A_b k) => (own_ob O_b h).2
       refine d_one (by kernel_rfl) rfl (s_call (xs := [Operand.tmp 29, Operand.tmp 34]) (args := [Value.int .i64 (szF (bt (partsF k) (i : Int))), Value.int .i64 (rd l (cntF (partsF k) i : Int))]) p21_10_9 hE wn_none rfl rfl Try.func59 cl59 (dig_sz (bt (partsF k) (i : Int)) (rd l (cntF (partsF k) i : Int)) hs8 (by omega) _) ?_)
       rintro e w43 ⟨A40, n41, c42, rfl, hd8, hk⟩
       obtain ⟨hn8, O_q39⟩ := hd8 hfb8.1
       replace B_g1 := kp_blk B_g1 hk (fun h => h)
       replace O_b := own_keep O_b hk (fun _ _ h => h)
       replace K_0 := K_0.then_ hk (fun _ h => h.elim)
       have Nb_q39_g1 : ¬ OB A40 g1 := fun h => by have := (own_ob O_q39 h).1; have := hnb_g1; omega
       have Z_0_q39 : ∀ k, OB A40 k → (fun _ => False) k ∨ w.heap.size ≤ k := fun k h => .inr (by have := (own_ob O_q39 h).1; have := hnz_0; omega)
       have NN_q39_b : ∀ k, OB A40 k → ¬ OB A_b k := fun k h h2 => by have := (own_ob O_q39 h).1; have := hno_b k h2; omega
       have NN_b_q39 : ∀ k, OB A_b k → ¬ OB A40 k := fun k h h2 => NN_q39_b k h2 h
       replace O_q39 := own_lower O_q39 hnz_0
       refine ⟨_, rfl, ?_⟩; clear hE a; intro a hE
       refine ⟨⟨B_g1, (hF _ K_0), trivial⟩, ?_⟩
       refine Rv.dq (v := Value.tuple #[Value.slice A40 n41 c42, Value.bool (decide (0 ≤ (rd l (cntF (partsF k) i : Int)) ∧ (rd l (cntF (partsF k) i : Int)) < spanF (szF (bt (partsF k) (i : Int)))))]) p21_10_10 ns21_10 hE wn_none ⟨B_g1, (hF _ K_0), trivial⟩ (fun W hS => (st_move rfl)) ?_; clear hE a; intro a hE
       refine Rv.dq (v := Value.slice A40 n41 c42) p21_10_11 ns21_10 hE wn_none ⟨B_g1, (hF _ K_0), trivial⟩ (fun W hS => (st_extract rfl rfl)) ?_; clear hE a; intro a hE
       refine Rv.dq (v := Value.bool (decide (0 ≤ (rd l (cntF (partsF k) i : Int)) ∧ (rd l (cntF (partsF k) i : Int)) < spanF (szF (bt (partsF k) (i : Int)))))) p21_10_12 ns21_10 hE wn_none ⟨B_g1, (hF _ K_0), trivial⟩ (fun W hS => (st_extract rfl rfl)) ?_; clear hE a; intro a hE
       refine Rv.dq (v := Value.slice A40 n41 c42) p21_10_13 ns21_10 hE wn_none ⟨B_g1, (hF _ K_0), trivial⟩ (fun W hS => (st_assign rfl)) ?_; clear hE a; intro a hE
       refine Rv.dq (v := Value.bool (decide (0 ≤ (rd l (cntF (partsF k) i : Int)) ∧ (rd l (cntF (partsF k) i : Int)) < spanF (szF (bt (partsF k) (i : Int)))))) p21_10_14 ns21_10 hE wn_none ⟨B_g1, (hF _ K_0), trivial⟩ (fun W hS => (st_assign rfl)) ?_; clear hE a; intro a hE
       refine d_end (by kernel_rfl) ?_
       refine x_norm (c_reg R21_11_l ?_)
       refine q0 p21_11_0 hE (st_move rfl) ?_; clear hE a; intro a hE
       refine q0 p21_11_1 hE (st_move rfl) ?_; clear hE a; intro a hE
       refine p_cons (s_appendC (xs := (putP k l f i)) (ys := (digF (szF (bt (partsF k) (i : Int))) (rd l (cntF (partsF k) i : Int)))) p21_11_2 hE wn_none rfl Try.underlying22 eD5 rfl O_b rfl (own_told O_q39) (by omega) (by omega) K_0.kept.1 ?_)
       clear hE a; intro Ab44 cb45 w46 O_b' hk hat a hE
       have Nb_b_g1' := grow_n Nb_b_g1 (blk_lt B_g1) hat
       have NN_q39_b' : ∀ k, OB A40 k → ¬ OB Ab44 k := fun k h h2 => (hat k h2).elim (NN_q39_b k h) (fun h3 => by have := (own_ob O_q39 h).2; omega)
       have Z_0_b' := grow_z Z_0_b K_0.kept.1 hat
       replace B_g1 := kp_blk B_g1 hk Nb_b_g1
       replace O_q39 := own_keep O_q39 hk NN_q39_b
       replace K_0 := K_0.then_ hk Z_0_b
       replace Nb_b_g1 := Nb_b_g1'
       replace NN_q39_b := NN_q39_b'
       replace NN_b_q39 : ∀ k, OB Ab44 k → ¬ OB A40 k := fun k h h2 => NN_q39_b k h2 h
       replace Z_0_b := Z_0_b'
       replace O_b : w46.ownsRow _ 5 1 (.slice Ab44 (n_b + n41) cb45) (n_b + n41) (encs (Value.int .u8) ((putP k l f i) ++ (digF (szF (bt (partsF k) (i : Int))) (rd l (cntF (partsF k) i : Int))))) := O_b'
       clear O_b' hk hat
       refine q0 p21_11_3 hE (st_assign rfl) ?_; clear hE a; intro a hE
       refine p_nil (x_norm (c_regL R21_12_l ?_))
       refine q0 p21_12_0 hE (st_move rfl) ?_; clear hE a; intro a hE
       refine q0 p21_12_1 hE (st_add (z := (cntF (partsF k) i : Int) + 1) rfl rfl (wr_i64 _ (by omega) (by omega))) ?_; clear hE a; intro a hE
       refine q0 p21_12_2 hE (st_assign rfl) ?_; clear hE a; intro a hE
       refine p_nil (x_normB (x_normB (x_norm (c_regL R21_8_l ?_))))
       refine q0 p21_8_0 hE (st_move rfl) ?_; clear hE a; intro a hE
       refine q0 p21_8_1 hE (st_add (z := (i : Int) + 1) rfl rfl (wr_i64 _ (by omega) (by omega))) ?_; clear hE a; intro a hE
       refine q0 p21_8_2 hE (st_assign rfl) ?_; clear hE a; intro a hE
       refine p_nil (x_norm ?_)
       have hcn9 : cntF (partsF k) (i + 1) = cntF (partsF k) i + 1 := cnt_yes hs8
       have e9 : ((putP k l f i) ++ (digF (szF (bt (partsF k) (i : Int))) (rd l (cntF (partsF k) i : Int)))) = putP k l f (i + 1) := by show _ = putP k l f i ++ (if _ then _ else _); rw [if_neg hc33]
       rw [e9] at O_b
       exact ⟨i + 1, by omega, Ab44, cb45, (n_b + n41), En.sub hE ⟨rfl, rfl, rfl, rfl, rfl, rfl, (by rw [hcn9]; rfl), rfl, trivial⟩, (by omega), (by omega), B_g1, (by have h8 := congrArg List.length e9; rw [List.length_append, ← hn_b] at h8; first | (rw [l16_len9] at h8; omega) | (rw [dig_len8 hs8 hn8] at h8; omega)), O_b, Nb_b_g1, Z_0_b, K_0⟩
     ·
      refine p_cons (s_still (v := Value.bool false) p21_7_3 hE wn_none rfl (st_lss rfl rfl (decide_eq_false hc32)) ?_); clear hE a; intro a hE
      refine p_nil (x_norm ?_)
      refine c_cond (t := false) hE rfl ?_
      refine wp_exit (x_exit (x_exit ?_))
      obtain rfl : i = (partsF k).size := by omega
      refine x_in (x_norm (c_reg R21_19_l ?_))
      refine q0 p21_19_0 hE (st_fieldAddr Try.underlying45 rfl tS3 rfl rfl) ?_; clear hE a; intro a hE
      refine q0 p21_19_1 hE (st_load1 tA3 rfl ((blk_cell B_g1 0).trans rfl)) ?_; clear hE a; intro a hE
      refine q0 p21_19_2 hE (st_conv (z := (k : Int)) (by kernel_rfl) Try.underlying5 rfl (wr_u8 _ (by omega) (by omega))) ?_; clear hE a; intro a hE
      refine q0 p21_19_3 hE (st_move rfl) ?_; clear hE a; intro a hE
      refine q0 p21_19_4 hE (st_len Try.underlying22 rfl) ?_; clear hE a; intro a hE
      refine q0 p21_19_5 hE (st_conv (z := ((n_b : Int) % 256)) (by kernel_rfl) Try.underlying5 rfl (IntKind.wrap_u8 _)) ?_; clear hE a; intro a hE
      refine p_cons (s_row (xs := [(0, Operand.tmp 64), (1, Operand.tmp 67)]) (vs := [(0, Value.int .u8 (k : Int)), (1, Value.int .u8 ((n_b : Int) % 256))]) (cs := #[Value.int .u8 (k : Int), Value.int .u8 ((n_b : Int) % 256)]) p21_19_6 hE wn_none rfl Try.underlying22 rfl (by kernel_rfl) ?_)
      clear hE a; intro g47 w48 z49 B_g47 hk a hE
      have n_g1_g47 : g1 ≠ g47 := ne_new B_g1 z49
      have z_0_g47 := Nat.le_trans K_0.kept.1 z49
      have Nb_b_g47 : ¬ OB A_b g47 := fun h => by have := (own_ob O_b h).2; omega
      replace B_g1 := kp_blk B_g1 hk (fun h => h)
      replace O_b := own_keep O_b hk (fun _ _ h => h)
      replace K_0 := K_0.then_ hk (fun _ h => h.elim)
      clear hk
      refine q0 p21_19_7 hE (st_move rfl) ?_; clear hE a; intro a hE
      have O_q50 := own_blk9 (k := .u8) (l := [(k : Int), ((n_b : Int) % 256)]) B_g47 (show w.heap.size ≤ g47 from z_0_g47) rfl (Nat.le_of_ble_eq_true rfl)
      have Nb_q50_g1 : ¬ OB (some ⟨g47, 0, none⟩) g1 := fun h => by have h := ob_blk.1 h; exact (Ne.symm n_g1_g47) h
      have Z_0_q50 : ∀ k, OB (some ⟨g47, 0, none⟩) k → (fun _ => False) k ∨ w.heap.size ≤ k := fun k h => by have h := ob_blk.1 h; subst h; exact Or.inr z_0_g47
      have NN_q50_b : ∀ k, OB (some ⟨g47, 0, none⟩) k → ¬ OB A_b k := fun k h h2 => by have h := ob_blk.1 h; subst h; exact Nb_b_g47 h2
      have NN_b_q50 : ∀ k, OB A_b k → ¬ OB (some ⟨g47, 0, none⟩) k := fun k h h2 => NN_q50_b k h2 h
      refine p_cons (s_appendC (xs := [(k : Int), ((n_b : Int) % 256)]) (ys := (putP k l f ((partsF k).size))) p21_19_8 hE wn_none rfl Try.underlying22 eD5 rfl O_q50 rfl (own_told O_b) (by omega) (by omega) K_0.kept.1 ?_)
      clear hE a; intro Aq5051 cq5052 w53 O_q50' hk hat a hE
      have Nb_q50_g1' := grow_n Nb_q50_g1 (blk_lt B_g1) hat
      have NN_b_q50' : ∀ k, OB A_b k → ¬ OB Aq5051 k := fun k h h2 => (hat k h2).elim (NN_b_q50 k h) (fun h3 => by have := (own_ob O_b h).2; omega)
      have Z_0_q50' := grow_z Z_0_q50 K_0.kept.1 hat
      replace B_g1 := kp_blk B_g1 hk Nb_q50_g1
      replace O_b := own_keep O_b hk NN_b_q50
      replace K_0 := K_0.then_ hk Z_0_q50
      replace Nb_q50_g1 := Nb_q50_g1'
      replace NN_b_q50 := NN_b_q50'
      replace NN_q50_b : ∀ k, OB Aq5051 k → ¬ OB A_b k := fun k h h2 => NN_b_q50 k h2 h
      replace Z_0_q50 := Z_0_q50'
      replace O_q50 : w53.ownsRow _ 5 1 (.slice Aq5051 (2 + n_b) cq5052) (2 + n_b) (encs (Value.int .u8) ([(k : Int), ((n_b : Int) % 256)] ++ (putP k l f ((partsF k).size)))) := O_q50'
      clear O_q50' hk hat
      refine q0 p21_19_9 hE (st_assign rfl) ?_; clear hE a; intro a hE
      refine p_nil (x_norm (wp_ret ?_))
      refine ret_one (v := Value.slice Aq5051 (2 + n_b) cq5052) rfl hE (.tmp rfl .nil) ?_
      have eb : putP k l f (partsF k).size = bodyF k l f tx := by rw [htx0]; exact putP_end (by omega) hk9 l f
      have en : n_b = (bodyF k l f tx).length := by rw [← eb]; exact hn_b
      have e9 : ([(k : Int), ((n_b : Int) % 256)] ++ (putP k l f ((partsF k).size))) = bytesF k l f tx := by unfold bytesF; rw [if_neg (by omega), ← en, ← eb] <;> rfl
      have hn9 : (2 + n_b) = (bytesF k l f tx).length := by have := congrArg List.length e9; rw [← this]; simp only [List.length_append, List.length_cons, List.length_nil, List.length_replicate]; omega
      rw [e9] at O_q50
      exact ⟨_, _, _, rfl, hn9, O_q50, K_0⟩
theorem rd_topE {l : List Int} (h : ∀ y ∈ l, y ≤ 9223372036854775807) (i : Int) : rd l i ≤ 9223372036854775807 := by
 by_cases hi : i.toNat < l.length
 ·
  have : rd l i = l[i.toNat] := by simp [rd, rdOf, List.getD_eq_getElem?_getD, hi]
  rw [this]; exact h _ (List.getElem_mem hi)
 ·
  have : rd l i = 0 := by simp [rd, rdOf, List.getD_eq_getElem?_getD, List.getElem?_eq_none (Nat.le_of_not_lt hi)]
  rw [this]; decide
theorem rcheck_e (x : OV) (B T : Option Addr) (cb ct : Nat) (hly : ∀ y ∈ x.2.1, y ≤ 9223372036854775807) (w : World) (F_B : ∀ W', Kp w W' (fun _ => False) → Kd.C (Kd.int .i64) W' B x.2.1.length x.2.1) : Calls Try.prog 20 #[Value.agg (([Value.int .i64 x.1, Value.slice B x.2.1.length cb] ++ b16 (adr x) ++ [Value.slice T x.2.2.2.length ct])).toArray] w fun e w' => e = .returned (.int .i64 (chkV x)) ∧ Kp w w' (fun _ => False) :=
 rcheck_any x.1 B T x.2.1.length cb x.2.2.2.length ct x.2.1 (rd_topE hly) (adr x) w F_B
theorem renc_x (x : OV) (B T : Option Addr) (cb ct : Nat) (hc : chkV x = 0) (w : World) (hF : ∀ W', Kp w W' (fun _ => False) → Kd.C (Kd.int .i64) W' B x.2.1.length x.2.1) (hG : ∀ W', Kp w W' (fun _ => False) → Kd.C (Kd.int .u8) W' T x.2.2.2.length x.2.2.2) : Calls Try.prog 21 #[Value.agg (([Value.int .i64 x.1, Value.slice B x.2.1.length cb] ++ b16 (adr x) ++ [Value.slice T x.2.2.2.length ct])).toArray] w fun e w' => ∃ A' n c', e = .returned (.slice A' n c') ∧ n = (optB x).length ∧ w'.ownsRow w.heap.size 5 1 (.slice A' n c') n (encs (Value.int .u8) (optB x)) ∧ Kp w w' (fun _ => False) := by
 obtain ⟨h0, h9, hl, hN, ht⟩ := chk_zero hc
 have h2 := (chk_more hc).2
 have e : x.1 = (x.1.toNat : Int) := by omega
 have := renc_any x.1.toNat (by omega) x.2.1 x.2.2.2 (adr x) B T cb ct hl hN ht (h2.imp_right (fun h => by omega)) w hF hG
 rw [← e] at this
 exact this
theorem getD_memE {α : Type} {l : List α} {i : Nat} (h : i < l.length) (z : α) : l.getD i z ∈ l := by
 rw [List.getD_eq_getElem?_getD, List.getElem?_eq_getElem h]
 exact List.getElem_mem h
def szO (x : OV) : Int := if chkV x = 0 then ((optB x).length : Int) else 0
theorem R17_0_l : List.range (regOf Try.f17 0).size = [0, 1] := by kernel_rfl
theorem R17_1_l : List.range (regOf Try.f17 1).size = [0, 1, 2] := by kernel_rfl
theorem R17_2_l : List.range (regOf Try.f17 2).size = [0, 1] := by kernel_rfl
theorem R17_3_l : List.range (regOf Try.f17 3).size = [0] := by kernel_rfl
theorem R17_4_l : List.range (regOf Try.f17 4).size = [0] := by kernel_rfl
theorem R17_5_l : List.range (regOf Try.f17 5).size = [0, 1, 2, 3] := by kernel_rfl
theorem R17_7_l : List.range (regOf Try.f17 7).size = [0, 1, 2, 3, 4, 5] := by kernel_rfl
theorem R17_8_l : List.range (regOf Try.f17 8).size = [0, 1] := by kernel_rfl
theorem R17_9_l : List.range (regOf Try.f17 9).size = [0, 1, 2] := by kernel_rfl
theorem R17_10_l : List.range (regOf Try.f17 10).size = [0, 1, 2, 3, 4, 5, 6, 7] := by kernel_rfl
theorem R17_6_l : List.range (regOf Try.f17 6).size = [0, 1, 2] := by kernel_rfl
theorem R17_11_l : List.range (regOf Try.f17 11).size = [0, 1, 2] := by kernel_rfl
theorem R17_12_l : List.range (regOf Try.f17 12).size = [0, 1] := by kernel_rfl
theorem R17_13_l : List.range (regOf Try.f17 13).size = [0, 1, 2] := by kernel_rfl
theorem body17 : Try.f17.body = some (.seq (.region 0 (regOf Try.f17 0) false) (.seq (.seq (.region 1 (regOf Try.f17 1) false) (.cond (Operand.tmp 9) (.seq (.region 2 (regOf Try.f17 2) false) (.ret)) (.skip))) (.seq (.region 3 (regOf Try.f17 3) false) (.seq (.seq (.region 4 (regOf Try.f17 4) false) (.block 0 (.loop (.seq (.seq (.region 5 (regOf Try.f17 5) false) (.cond (Operand.tmp 13) (.skip) (.exit 0))) (.seq (.block 1 (.seq (.region 7 (regOf Try.f17 7) false) (.seq (.seq (.region 8 (regOf Try.f17 8) false) (.cond (Operand.tmp 22) (.seq (.region 9 (regOf Try.f17 9) false) (.ret)) (.skip))) (.region 10 (regOf Try.f17 10) false)))) (.region 6 (regOf Try.f17 6) false)))))) (.seq (.seq (.region 11 (regOf Try.f17 11) false) (.cond (Operand.tmp 33) (.seq (.region 12 (regOf Try.f17 12) false) (.ret)) (.skip))) (.seq (.region 13 (regOf Try.f17 13) false) (.ret))))))) := by kernel_rfl
theorem p17_0_0 : pj (regOf Try.f17 0) 0 = some (some 2, .assign (.const (.slice none 0 0)), 22, none) := by kernel_rfl
theorem p17_0_1 : pj (regOf Try.f17 0) 1 = some (some 3, .assign (.const (.int .i64 0)), 3, none) := by kernel_rfl
theorem p17_1_0 : pj (regOf Try.f17 1) 0 = some (some 7, .move (.tmp 0), 27, none) := by kernel_rfl
theorem p17_1_1 : pj (regOf Try.f17 1) 1 = some (some 8, .call { callee := .builtin .len, args := #[.tmp 7], argTypes := #[27] }, 3, none) := by kernel_rfl
theorem p17_1_2 : pj (regOf Try.f17 1) 2 = some (some 9, .binOp .gtr 3 (.tmp 8) (.const (.int .i64 16)) 3, 4, none) := by kernel_rfl
theorem p17_2_0 : pj (regOf Try.f17 2) 0 = some (some 2, .assign (.const (.slice none 0 0)), 22, none) := by kernel_rfl
theorem p17_2_1 : pj (regOf Try.f17 2) 1 = some (some 3, .assign (.const (.int .i64 2)), 3, none) := by kernel_rfl
theorem p17_3_0 : pj (regOf Try.f17 3) 0 = some (some 4, .assign (.const (.slice none 0 0)), 22, none) := by kernel_rfl
theorem p17_4_0 : pj (regOf Try.f17 4) 0 = some (some 5, .assign (.const (.int .i64 0)), 3, none) := by kernel_rfl
theorem p17_5_0 : pj (regOf Try.f17 5) 0 = some (some 10, .move (.tmp 5), 3, none) := by kernel_rfl
theorem p17_5_1 : pj (regOf Try.f17 5) 1 = some (some 11, .move (.tmp 0), 27, none) := by kernel_rfl
theorem p17_5_2 : pj (regOf Try.f17 5) 2 = some (some 12, .call { callee := .builtin .len, args := #[.tmp 11], argTypes := #[27] }, 3, none) := by kernel_rfl
theorem p17_5_3 : pj (regOf Try.f17 5) 3 = some (some 13, .binOp .lss 3 (.tmp 10) (.tmp 12) 3, 4, none) := by kernel_rfl
theorem p17_7_0 : pj (regOf Try.f17 7) 0 = some (some 16, .move (.tmp 0), 27, none) := by kernel_rfl
theorem p17_7_1 : pj (regOf Try.f17 7) 1 = some (some 17, .move (.tmp 5), 3, none) := by kernel_rfl
theorem p17_7_2 : pj (regOf Try.f17 7) 2 = some (some 18, .indexAddr 27 (.tmp 16) (.tmp 17), 0, none) := by kernel_rfl
theorem tS45 : (Try.prog.info? 45).map (·.size) = some 19 := by kernel_rfl
theorem p17_7_3 : pj (regOf Try.f17 7) 3 = some (some 19, .load 45 (.tmp 18), 45, none) := by kernel_rfl
theorem tA45 : (Try.prog.underlying 45).map aggD = some true := by kernel_rfl
theorem p17_7_4 : pj (regOf Try.f17 7) 4 = some (some 20, .call { callee := .value (.func 20), args := #[.tmp 19], argTypes := #[45] }, 3, none) := by kernel_rfl
theorem cl20 : callable Try.f20 = true := by kernel_rfl
theorem p17_7_5 : pj (regOf Try.f17 7) 5 = some (some 6, .assign (.tmp 20), 3, none) := by kernel_rfl
theorem p17_8_0 : pj (regOf Try.f17 8) 0 = some (some 21, .move (.tmp 6), 3, none) := by kernel_rfl
theorem p17_8_1 : pj (regOf Try.f17 8) 1 = some (some 22, .binOp .neq 3 (.tmp 21) (.const (.int .i64 0)) 3, 4, none) := by kernel_rfl
theorem p17_10_0 : pj (regOf Try.f17 10) 0 = some (some 24, .move (.tmp 4), 22, none) := by kernel_rfl
theorem p17_10_1 : pj (regOf Try.f17 10) 1 = some (some 25, .move (.tmp 0), 27, none) := by kernel_rfl
theorem p17_10_2 : pj (regOf Try.f17 10) 2 = some (some 26, .move (.tmp 5), 3, none) := by kernel_rfl
theorem p17_10_3 : pj (regOf Try.f17 10) 3 = some (some 27, .indexAddr 27 (.tmp 25) (.tmp 26), 0, none) := by kernel_rfl
theorem p17_10_4 : pj (regOf Try.f17 10) 4 = some (some 28, .load 45 (.tmp 27), 45, none) := by kernel_rfl
theorem p17_10_5 : pj (regOf Try.f17 10) 5 = some (some 29, .call { callee := .value (.func 21), args := #[.tmp 28], argTypes := #[45] }, 22, none) := by kernel_rfl
theorem cl21 : callable Try.f21 = true := by kernel_rfl
theorem p17_10_6 : pj (regOf Try.f17 10) 6 = some (some 30, .call { callee := .builtin .append, args := #[.tmp 24, .tmp 29], argTypes := #[22, 22] }, 22, none) := by kernel_rfl
theorem p17_10_7 : pj (regOf Try.f17 10) 7 = some (some 4, .assign (.tmp 30), 22, none) := by kernel_rfl
theorem p17_6_0 : pj (regOf Try.f17 6) 0 = some (some 14, .move (.tmp 5), 3, none) := by kernel_rfl
theorem p17_6_1 : pj (regOf Try.f17 6) 1 = some (some 15, .binOp .add 3 (.tmp 14) (.const (.int .i64 1)) 3, 3, none) := by kernel_rfl
theorem p17_6_2 : pj (regOf Try.f17 6) 2 = some (some 5, .assign (.tmp 15), 3, none) := by kernel_rfl
theorem p17_9_0 : pj (regOf Try.f17 9) 0 = some (some 23, .move (.tmp 6), 3, none) := by kernel_rfl
theorem p17_9_1 : pj (regOf Try.f17 9) 1 = some (some 2, .assign (.const (.slice none 0 0)), 22, none) := by kernel_rfl
theorem p17_9_2 : pj (regOf Try.f17 9) 2 = some (some 3, .assign (.tmp 23), 3, none) := by kernel_rfl
theorem p17_11_0 : pj (regOf Try.f17 11) 0 = some (some 31, .move (.tmp 4), 22, none) := by kernel_rfl
theorem p17_11_1 : pj (regOf Try.f17 11) 1 = some (some 32, .call { callee := .builtin .len, args := #[.tmp 31], argTypes := #[22] }, 3, none) := by kernel_rfl
theorem p17_11_2 : pj (regOf Try.f17 11) 2 = some (some 33, .binOp .gtr 3 (.tmp 32) (.const (.int .i64 1280)) 3, 4, none) := by kernel_rfl
theorem p17_12_0 : pj (regOf Try.f17 12) 0 = some (some 2, .assign (.const (.slice none 0 0)), 22, none) := by kernel_rfl
theorem p17_12_1 : pj (regOf Try.f17 12) 1 = some (some 3, .assign (.const (.int .i64 2)), 3, none) := by kernel_rfl
theorem p17_13_0 : pj (regOf Try.f17 13) 0 = some (some 34, .move (.tmp 4), 22, none) := by kernel_rfl
theorem p17_13_1 : pj (regOf Try.f17 13) 1 = some (some 2, .assign (.tmp 34), 22, none) := by kernel_rfl
theorem p17_13_2 : pj (regOf Try.f17 13) 2 = some (some 3, .assign (.const (.int .i64 0)), 3, none) := by kernel_rfl
set_option maxHeartbeats 4000000 in
theorem renc_all (A : Option Addr) (c : Nat) (xs : List OV) (hly : ∀ x ∈ xs, ∀ y ∈ x.2.1, y ≤ 9223372036854775807) (w : World) (hF : Kd.C dO w A xs.length xs) (hmx : xs.length ≤ 1000000000000) : Calls Try.prog 17 #[.slice A xs.length c] w fun e w' => ∃ A' c', e = .returned (.tuple #[.slice A' (encB xs).length c', .int .i64 (encE xs)]) ∧ (encB xs).length ≤ c' ∧ (∀ W', Kp w' W' (fun _ => False) → Kd.C (Kd.int .u8) W' A' (encB xs).length (encB xs)) ∧ Kp w w' (fun _ => False) := by
 have K_0 := Kp.refl w (fun _ => False)
 refine enter (args := [Value.slice A xs.length c]) (n := 35) Try.func17 body17 rfl rfl rfl ?_
 intro a hE
 refine c_reg R17_0_l ?_
 refine q0 p17_0_0 hE (st_assign rfl) ?_; clear hE a; intro a hE
 refine q0 p17_0_1 hE (st_assign rfl) ?_; clear hE a; intro a hE
 refine p_nil (x_norm (wp_seq (c_reg R17_1_l ?_)))
 refine q0 p17_1_0 hE (st_move rfl) ?_; clear hE a; intro a hE
 refine q0 p17_1_1 hE (st_len Try.underlying27 rfl) ?_; clear hE a; intro a hE
 rcases Decidable.em (16 < (xs.length : Int)) with hc1 | hc1
 ·
  refine p_cons (s_still (v := Value.bool true) p17_1_2 hE wn_none rfl (st_gtr rfl rfl (decide_eq_true hc1)) ?_); clear hE a; intro a hE
  refine p_nil (x_norm ?_)
  refine c_cond (t := true) hE rfl ?_
  refine c_reg R17_2_l ?_
  refine q0 p17_2_0 hE (st_assign rfl) ?_; clear hE a; intro a hE
  refine q0 p17_2_1 hE (st_assign rfl) ?_; clear hE a; intro a hE
  refine p_nil (x_norm (wp_ret (x_ret ?_)))
  refine ret_list (rs := [.tmp 2, .tmp 3]) (vs := [Value.slice none 0 0, Value.int .i64 2]) rfl hE (.tmp rfl (.tmp rfl .nil)) rfl ?_
  have eE : encE xs = 2 := by unfold encE; rw [if_pos (by omega)]
  have eB : encB xs = [] := by unfold encB; rw [eE]; exact if_neg (by decide)
  exact ⟨none, 0, by rw [eB]; exact congrArg (fun z => Ending.returned (.tuple #[.slice none 0 0, .int .i64 z])) eE.symm, by rw [eB]; exact Nat.le_refl _, fun W' hk => by rw [eB]; exact Kd.C_nil _ _, K_0⟩
 ·
  refine p_cons (s_still (v := Value.bool false) p17_1_2 hE wn_none rfl (st_gtr rfl rfl (decide_eq_false hc1)) ?_); clear hE a; intro a hE
  refine p_nil (x_norm ?_)
  refine c_cond (t := false) hE rfl ?_
  refine wp_skip (x_norm (c_reg R17_3_l ?_))
  refine q0 p17_3_0 hE (st_assign rfl) ?_; clear hE a; intro a hE
  refine p_nil (x_norm (wp_seq (c_reg R17_4_l ?_)))
  refine q0 p17_4_0 hE (st_assign rfl) ?_; clear hE a; intro a hE
  refine p_nil (x_norm (wp_block ?_))
  have O_out := own_none w w.heap.size 5 1
  have Z_0_out : ∀ k, OB none k → (fun _ => False) k ∨ w.heap.size ≤ k := fun k h => absurd h ob_nil
  refine c_loop (α := Nat) (fun k a W => ∃ (A_out : Option Addr) (c_out : Nat) (n_out : Nat), En 35 a [(0, Value.slice A xs.length c), (9, Value.bool false), (5, Value.int .i64 (k : Int)), (4, Value.slice A_out n_out c_out)] ∧ k ≤ xs.length ∧ n_out ≤ 257 * k ∧ (∀ j, j < k → chkV (xs.getD j zO) = 0) ∧ n_out = (allB (xs.take k)).length ∧ W.ownsRow w.heap.size 5 1 (.slice A_out n_out c_out) n_out (encs (Value.int .u8) (allB (xs.take k))) ∧ (∀ k, OB A_out k → (fun _ => False) k ∨ w.heap.size ≤ k) ∧ Kp w W (fun _ => False)) (fun k => xs.length - k) (0) ?_ ?_
  ·
   exact ⟨none, 0, 0, En.sub hE ⟨rfl, rfl, rfl, rfl, trivial⟩, Nat.zero_le _, (Nat.zero_le _), fun j hj => absurd hj (Nat.not_lt_zero j), rfl, O_out, Z_0_out, K_0⟩
  ·
   clear hE a
   rintro k a w2 ⟨A_out, c_out, n_out, hE, hk9, hlo, hall, hn_out, O_out, Z_0_out, K_0⟩
   refine wp_seq (c_reg R17_5_l ?_)
   refine q0 p17_5_0 hE (st_move rfl) ?_; clear hE a; intro a hE
   refine q0 p17_5_1 hE (st_move rfl) ?_; clear hE a; intro a hE
   refine q0 p17_5_2 hE (st_len Try.underlying27 rfl) ?_; clear hE a; intro a hE
   rcases Decidable.em ((k : Int) < (xs.length : Int)) with hc3 | hc3
   ·
    refine p_cons (s_still (v := Value.bool true) p17_5_3 hE wn_none rfl (st_lss rfl rfl (decide_eq_true hc3)) ?_); clear hE a; intro a hE
    refine p_nil (x_norm ?_)
    refine c_cond (t := true) hE rfl ?_
    refine wp_skip (x_norm (wp_seq (wp_block (c_reg R17_7_l ?_))))
    have hkx : k < xs.length := by omega
    obtain ⟨hAe4, cce4, hKe4, hce4⟩ := C_elem (i := k) hF zO (show k < xs.length by omega)
    obtain ⟨x, hxe4⟩ : ∃ x, List.getD xs k zO = x := ⟨_, rfl⟩
    rw [hxe4] at hKe4
    obtain ⟨Ae4, qe4, Te4, ce4, rfl, hle4, hme4, hCe4, hDe4⟩ := opt_open hKe4
    refine q0 p17_7_0 hE (st_move rfl) ?_; clear hE a; intro a hE
    refine q0 p17_7_1 hE (st_move rfl) ?_; clear hE a; intro a hE
    refine q0 p17_7_2 hE (st_indexAddrR (i := k) (s := 19) Try.underlying27 tS45 hAe4 rfl rfl (by omega)) ?_; clear hE a; intro a hE
    refine q0 p17_7_3 hE (st_loadR (off := k * 19) (j := 0) (k := 19) (vs := ([Value.int .i64 x.1, Value.slice Ae4 x.2.1.length qe4] ++ b16 (adr x) ++ [Value.slice Te4 x.2.2.2.length ce4])) tA45 tS45 (fun j u h => cell_to K_0 (hce4 j u h)) rfl rfl (by omega) rfl) ?_; clear hE a; intro a hE
    refine p_cons (s_call (xs := [Operand.tmp 19]) (args := [Value.agg (([Value.int .i64 x.1, Value.slice Ae4 x.2.1.length qe4] ++ b16 (adr x) ++ [Value.slice Te4 x.2.2.2.length ce4])).toArray]) p17_7_4 hE wn_none rfl rfl Try.func20 cl20 (rcheck_e x Ae4 Te4 qe4 ce4 (by have := hly _ (getD_memE hkx zO); rw [hxe4] at this; exact this) _ (fun W' hk => C_to hCe4 (K_0.then_ hk (fun _ h => h.elim)))) ?_)
    rintro e w5 ⟨rfl, hk⟩
    replace O_out := own_keep O_out hk (fun _ _ h => h)
    replace K_0 := K_0.then_ hk (fun _ h => h.elim)
    refine ⟨_, rfl, ?_⟩; clear hE a; intro a hE
    refine q0 p17_7_5 hE (st_assign rfl) ?_; clear hE a; intro a hE
    refine p_nil (x_norm (wp_seq (c_reg R17_8_l ?_)))
    refine q0 p17_8_0 hE (st_move rfl) ?_; clear hE a; intro a hE
    rcases Decidable.em ((chkV x) = 0) with hc6 | hc6
    ·
     refine p_cons (s_still (v := Value.bool false) p17_8_1 hE wn_none rfl (st_neq rfl rfl (by rw [decide_eq_true hc6]; rfl)) ?_); clear hE a; intro a hE
     refine p_nil (x_norm ?_)
     refine c_cond (t := false) hE rfl ?_
     refine wp_skip (x_norm (c_regL R17_10_l ?_))
     have hob := optB_len hc6
     refine q0 p17_10_0 hE (st_move rfl) ?_; clear hE a; intro a hE
     refine q0 p17_10_1 hE (st_move rfl) ?_; clear hE a; intro a hE
     refine q0 p17_10_2 hE (st_move rfl) ?_; clear hE a; intro a hE
     refine q0 p17_10_3 hE (st_indexAddrR (i := k) (s := 19) Try.underlying27 tS45 hAe4 rfl rfl (by omega)) ?_; clear hE a; intro a hE
     refine q0 p17_10_4 hE (st_loadR (off := k * 19) (j := 0) (k := 19) (vs := ([Value.int .i64 x.1, Value.slice Ae4 x.2.1.length qe4] ++ b16 (adr x) ++ [Value.slice Te4 x.2.2.2.length ce4])) tA45 tS45 (fun j u h => cell_to K_0 (hce4 j u h)) rfl rfl (by omega) rfl) ?_; clear hE a; intro a hE
     have hnz_0 := K_0.kept.1
     have hno_out := fun k (h : OB A_out k) => (own_ob O_out h).2
     refine p_cons (s_call (xs := [Operand.tmp 28]) (args := [Value.agg (([Value.int .i64 x.1, Value.slice Ae4 x.2.1.length qe4] ++ b16 (adr x) ++ [Value.slice Te4 x.2.2.2.length ce4])).toArray]) p17_10_5 hE wn_none rfl rfl Try.func21 cl21 (renc_x x Ae4 Te4 qe4 ce4 hc6 _ (fun W' hk => C_to hCe4 (K_0.then_ hk (fun _ h => h.elim))) (fun W' hk => C_to hDe4 (K_0.then_ hk (fun _ h => h.elim)))) ?_)
     rintro e w10 ⟨A8, n9, c9, rfl, hn9, O_q7, hk⟩
     subst hn9
     replace O_out := own_keep O_out hk (fun _ _ h => h)
     replace K_0 := K_0.then_ hk (fun _ h => h.elim)
     have Z_0_q7 : ∀ k, OB A8 k → (fun _ => False) k ∨ w.heap.size ≤ k := fun k h => .inr (by have := (own_ob O_q7 h).1; have := hnz_0; omega)
     have NN_q7_out : ∀ k, OB A8 k → ¬ OB A_out k := fun k h h2 => by have := (own_ob O_q7 h).1; have := hno_out k h2; omega
     have NN_out_q7 : ∀ k, OB A_out k → ¬ OB A8 k := fun k h h2 => NN_q7_out k h2 h
     replace O_q7 := own_lower O_q7 hnz_0
     refine ⟨_, rfl, ?_⟩; clear hE a; intro a hE
     refine p_cons (s_appendC (xs := (allB (xs.take k))) (ys := (optB x)) p17_10_6 hE wn_none rfl Try.underlying22 eD5 rfl O_out rfl (own_told O_q7) (by omega) (by omega) K_0.kept.1 ?_)
     clear hE a; intro Aout11 cout12 w13 O_out' hk hat a hE
     have NN_q7_out' : ∀ k, OB A8 k → ¬ OB Aout11 k := fun k h h2 => (hat k h2).elim (NN_q7_out k h) (fun h3 => by have := (own_ob O_q7 h).2; omega)
     have Z_0_out' := grow_z Z_0_out K_0.kept.1 hat
     replace O_q7 := own_keep O_q7 hk NN_q7_out
     replace K_0 := K_0.then_ hk Z_0_out
     replace NN_q7_out := NN_q7_out'
     replace NN_out_q7 : ∀ k, OB Aout11 k → ¬ OB A8 k := fun k h h2 => NN_q7_out k h2 h
     replace Z_0_out := Z_0_out'
     replace O_out : w13.ownsRow _ 5 1 (.slice Aout11 (n_out + (optB x).length) cout12) (n_out + (optB x).length) (encs (Value.int .u8) ((allB (xs.take k)) ++ (optB x))) := O_out'
     clear O_out' hk hat
     refine q0 p17_10_7 hE (st_assign rfl) ?_; clear hE a; intro a hE
     refine p_nil (x_normB (x_norm (c_regL R17_6_l ?_)))
     refine q0 p17_6_0 hE (st_move rfl) ?_; clear hE a; intro a hE
     refine q0 p17_6_1 hE (st_add (z := (k : Int) + 1) rfl rfl (wr_i64 _ (by omega) (by omega))) ?_; clear hE a; intro a hE
     refine q0 p17_6_2 hE (st_assign rfl) ?_; clear hE a; intro a hE
     refine p_nil (x_norm ?_)
     have e9 : allB (xs.take k) ++ optB x = allB (xs.take (k + 1)) := by rw [allB_succ hkx, hxe4]
     rw [e9] at O_out
     have hz9 : chkV (xs.getD k zO) = 0 := by rw [hxe4]; exact hc6
     exact ⟨k + 1, by omega, Aout11, cout12, (n_out + (optB x).length), En.sub hE ⟨rfl, rfl, rfl, rfl, trivial⟩, (by omega), (by omega), fun j hj => by rcases Nat.lt_succ_iff_lt_or_eq.1 hj with h | h; exact hall j h; rw [h]; exact hz9, (by rw [← e9, List.length_append, ← hn_out]), O_out, Z_0_out, K_0⟩
    ·
     refine p_cons (s_still (v := Value.bool true) p17_8_1 hE wn_none rfl (st_neq rfl rfl (by rw [decide_eq_false hc6]; rfl)) ?_); clear hE a; intro a hE
     refine p_nil (x_norm ?_)
     refine c_cond (t := true) hE rfl ?_
     refine c_reg R17_9_l ?_
     refine q0 p17_9_0 hE (st_move rfl) ?_; clear hE a; intro a hE
     refine q0 p17_9_1 hE (st_assign rfl) ?_; clear hE a; intro a hE
     refine q0 p17_9_2 hE (st_assign rfl) ?_; clear hE a; intro a hE
     refine p_nil (x_norm (wp_ret (x_ret (x_retB (x_ret (x_ret (x_retB (x_ret ?_))))))))
     refine ret_list (rs := [.tmp 2, .tmp 3]) (vs := [Value.slice none 0 0, Value.int .i64 (chkV x)]) rfl hE (.tmp rfl (.tmp rfl .nil)) rfl ?_
     have eF : firstBad xs = chkV x := by rw [firstBad_at hkx hall (by rw [hxe4]; exact hc6), hxe4]
     have eE : encE xs = chkV x := by unfold encE; rw [if_neg (by omega), eF, if_pos hc6]
     have eB : encB xs = [] := by unfold encB; rw [eE, if_neg hc6]
     exact ⟨none, 0, by rw [eB]; exact congrArg (fun z => Ending.returned (.tuple #[.slice none 0 0, .int .i64 z])) eE.symm, by rw [eB]; exact Nat.le_refl _, fun W' hk => by rw [eB]; exact Kd.C_nil _ _, K_0⟩
   ·
    refine p_cons (s_still (v := Value.bool false) p17_5_3 hE wn_none rfl (st_lss rfl rfl (decide_eq_false hc3)) ?_); clear hE a; intro a hE
    refine p_nil (x_norm ?_)
    refine c_cond (t := false) hE rfl ?_
    refine wp_exit (x_exit (x_exit (x_in (x_norm (wp_seq (c_reg R17_11_l ?_))))))
    refine q0 p17_11_0 hE (st_move rfl) ?_; clear hE a; intro a hE
    refine q0 p17_11_1 hE (st_len Try.underlying22 rfl) ?_; clear hE a; intro a hE
    rcases Decidable.em (1280 < (n_out : Int)) with hc14 | hc14
    ·
     refine p_cons (s_still (v := Value.bool true) p17_11_2 hE wn_none rfl (st_gtr rfl rfl (decide_eq_true hc14)) ?_); clear hE a; intro a hE
     refine p_nil (x_norm ?_)
     refine c_cond (t := true) hE rfl ?_
     refine c_reg R17_12_l ?_
     refine q0 p17_12_0 hE (st_assign rfl) ?_; clear hE a; intro a hE
     refine q0 p17_12_1 hE (st_assign rfl) ?_; clear hE a; intro a hE
     refine p_nil (x_norm (wp_ret (x_ret ?_)))
     refine ret_list (rs := [.tmp 2, .tmp 3]) (vs := [Value.slice none 0 0, Value.int .i64 2]) rfl hE (.tmp rfl (.tmp rfl .nil)) rfl ?_
     obtain rfl : k = xs.length := by omega
     have eF : firstBad xs = 0 := firstBad_none hall
     rw [List.take_length] at O_out hn_out
     have eE : encE xs = 2 := by unfold encE; rw [if_neg (by omega), eF, if_neg (fun h => h rfl), if_pos (by omega)]
     have eB : encB xs = [] := by unfold encB; rw [eE]; exact if_neg (by decide)
     exact ⟨none, 0, by rw [eB]; exact congrArg (fun z => Ending.returned (.tuple #[.slice none 0 0, .int .i64 z])) eE.symm, by rw [eB]; exact Nat.le_refl _, fun W' hk => by rw [eB]; exact Kd.C_nil _ _, K_0⟩
    ·
     refine p_cons (s_still (v := Value.bool false) p17_11_2 hE wn_none rfl (st_gtr rfl rfl (decide_eq_false hc14)) ?_); clear hE a; intro a hE
     refine p_nil (x_norm ?_)
     refine c_cond (t := false) hE rfl ?_
     refine wp_skip (x_norm (c_reg R17_13_l ?_))
     refine q0 p17_13_0 hE (st_move rfl) ?_; clear hE a; intro a hE
     refine q0 p17_13_1 hE (st_assign rfl) ?_; clear hE a; intro a hE
     refine q0 p17_13_2 hE (st_assign rfl) ?_; clear hE a; intro a hE
     refine p_nil (x_norm (wp_ret ?_))
     refine ret_list (rs := [.tmp 2, .tmp 3]) (vs := [Value.slice A_out n_out c_out, Value.int .i64 0]) rfl hE (.tmp rfl (.tmp rfl .nil)) rfl ?_
     obtain rfl : k = xs.length := by omega
     have eF : firstBad xs = 0 := firstBad_none hall
     rw [List.take_length] at O_out hn_out
     have eE : encE xs = 0 := by unfold encE; rw [if_neg (by omega), eF, if_neg (fun h => h rfl), if_neg (by omega)]
     have eB : encB xs = allB xs := by unfold encB; rw [if_pos eE]
     subst hn_out
     exact ⟨A_out, c_out, by rw [eB, eE], by rw [eB]; exact (own_caps O_out).1, fun W' hk => by rw [eB]; exact own_told (own_keep O_out hk (fun _ _ h => h)), K_0⟩
theorem check_x (x : OV) (B T : Option Addr) (cb ct : Nat) (w : World) (hF : ∀ W', Kp w W' (fun _ => False) → Kd.C (Kd.int .i64) W' B x.2.1.length x.2.1) : Calls Try.prog 22 #[Value.agg (([Value.int .i64 x.1, Value.slice B x.2.1.length cb] ++ b16 (adr x) ++ [Value.slice T x.2.2.2.length ct])).toArray] w fun e w' => e = .returned (.int .i64 (chkV x)) ∧ Kp w w' (fun _ => False) := check_any x.1 B T x.2.1.length cb x.2.2.2.length ct x.2.1 (adr x) w hF
theorem R23_0_l : List.range (regOf Try.f23 0).size = [0, 1] := by kernel_rfl
theorem R23_1_l : List.range (regOf Try.f23 1).size = [0, 1, 2] := by kernel_rfl
theorem R23_2_l : List.range (regOf Try.f23 2).size = [0] := by kernel_rfl
theorem R23_3_l : List.range (regOf Try.f23 3).size = [0, 1, 2, 3] := by kernel_rfl
theorem body23 : Try.f23.body = some (.seq (.region 0 (regOf Try.f23 0) false) (.seq (.seq (.region 1 (regOf Try.f23 1) false) (.cond (Operand.tmp 5) (.seq (.region 2 (regOf Try.f23 2) false) (.ret)) (.skip))) (.seq (.region 3 (regOf Try.f23 3) false) (.ret)))) := by kernel_rfl
theorem p23_0_0 : pj (regOf Try.f23 0) 0 = some (some 1, .box 50 (.tmp 0), 0, none) := by kernel_rfl
theorem p23_0_1 : pj (regOf Try.f23 0) 1 = some (some 2, .assign (.const (.int .i64 0)), 3, none) := by kernel_rfl
theorem p23_1_0 : pj (regOf Try.f23 1) 0 = some (some 3, .load 50 (.tmp 1), 50, none) := by kernel_rfl
theorem tA50 : (Try.prog.underlying 50).map aggD = some true := by kernel_rfl
theorem tS50 : (Try.prog.info? 50).map (·.size) = some 19 := by kernel_rfl
theorem p23_1_1 : pj (regOf Try.f23 1) 1 = some (some 4, .call { callee := .value (.func 22), args := #[.tmp 3], argTypes := #[50] }, 24, none) := by kernel_rfl
theorem cl22 : callable Try.f22 = true := by kernel_rfl
theorem p23_1_2 : pj (regOf Try.f23 1) 2 = some (some 5, .binOp .neq 24 (.tmp 4) (.const (.int .i64 0)) 24, 4, none) := by kernel_rfl
theorem p23_3_0 : pj (regOf Try.f23 3) 0 = some (some 6, .load 50 (.tmp 1), 50, none) := by kernel_rfl
theorem p23_3_1 : pj (regOf Try.f23 3) 1 = some (some 7, .call { callee := .value (.func 56), args := #[.tmp 6], argTypes := #[50] }, 22, none) := by kernel_rfl
theorem cl56 : callable Try.f56 = true := by kernel_rfl
theorem p23_3_2 : pj (regOf Try.f23 3) 2 = some (some 8, .call { callee := .builtin .len, args := #[.tmp 7], argTypes := #[22] }, 3, none) := by kernel_rfl
theorem p23_3_3 : pj (regOf Try.f23 3) 3 = some (some 2, .assign (.tmp 8), 3, none) := by kernel_rfl
theorem p23_2_0 : pj (regOf Try.f23 2) 0 = some (some 2, .assign (.const (.int .i64 0)), 3, none) := by kernel_rfl
set_option maxHeartbeats 4000000 in
theorem size_x (x : OV) (B T : Option Addr) (cb ct : Nat) (w : World) (hF : ∀ W', Kp w W' (fun _ => False) → Kd.C (Kd.int .i64) W' B x.2.1.length x.2.1) (hG : ∀ W', Kp w W' (fun _ => False) → Kd.C (Kd.int .u8) W' T x.2.2.2.length x.2.2.2) : Calls Try.prog 23 #[Value.agg (([Value.int .i64 x.1, Value.slice B x.2.1.length cb] ++ b16 (adr x) ++ [Value.slice T x.2.2.2.length ct])).toArray] w fun e w' => e = .returned (.int .i64 (szO x)) ∧ Kp w w' (fun _ => False) := by
 have K_0 := Kp.refl w (fun _ => False)
 refine enter (args := [Value.agg (([Value.int .i64 x.1, Value.slice B x.2.1.length cb] ++ b16 (adr x) ++ [Value.slice T x.2.2.2.length ct])).toArray]) (n := 9) Try.func23 body23 rfl rfl rfl ?_
 intro a hE
 refine c_reg R23_0_l ?_
 refine p_cons (s_box p23_0_0 hE wn_none rfl rfl ?_)
 clear hE a; intro g1 w2 z3 B_g1 hk a hE
 replace B_g1 : w2.heap[g1]? = some (.cells (([Value.int .i64 x.1, Value.slice B x.2.1.length cb] ++ b16 (adr x) ++ [Value.slice T x.2.2.2.length ct])).toArray 50 (0, 0)) := B_g1
 have z_0_g1 := Nat.le_trans K_0.kept.1 z3
 replace K_0 := K_0.then_ hk (fun _ h => h.elim)
 clear hk
 refine q0 p23_0_1 hE (st_assign rfl) ?_; clear hE a; intro a hE
 refine p_nil (x_norm (wp_seq (c_reg R23_1_l ?_)))
 refine q0 p23_1_0 hE (st_loadN (off := 0) (k := 19) (vs := ([Value.int .i64 x.1, Value.slice B x.2.1.length cb] ++ b16 (adr x) ++ [Value.slice T x.2.2.2.length ct])) tA50 tS50 rfl B_g1 rfl rfl) ?_; clear hE a; intro a hE
 refine p_cons (s_call (xs := [Operand.tmp 3]) (args := [Value.agg (([Value.int .i64 x.1, Value.slice B x.2.1.length cb] ++ b16 (adr x) ++ [Value.slice T x.2.2.2.length ct])).toArray]) p23_1_1 hE wn_none rfl rfl Try.func22 cl22 (check_x x B T cb ct _ (fun W' hk => hF W' (K_0.then_ hk (fun _ h => h.elim)))) ?_)
 rintro e w4 ⟨rfl, hk⟩
 replace B_g1 := kp_blk B_g1 hk (fun h => h)
 replace K_0 := K_0.then_ hk (fun _ h => h.elim)
 refine ⟨_, rfl, ?_⟩; clear hE a; intro a hE
 rcases Decidable.em ((chkV x) = 0) with hc5 | hc5
 ·
  refine p_cons (s_still (v := Value.bool false) p23_1_2 hE wn_none rfl (st_neq rfl rfl (by rw [decide_eq_true hc5]; rfl)) ?_); clear hE a; intro a hE
  refine p_nil (x_norm ?_)
  refine c_cond (t := false) hE rfl ?_
  refine wp_skip (x_norm (c_reg R23_3_l ?_))
  refine q0 p23_3_0 hE (st_loadN (off := 0) (k := 19) (vs := ([Value.int .i64 x.1, Value.slice B x.2.1.length cb] ++ b16 (adr x) ++ [Value.slice T x.2.2.2.length ct])) tA50 tS50 rfl B_g1 rfl rfl) ?_; clear hE a; intro a hE
  have hnb_g1 := blk_lt B_g1
  have hnz_0 := K_0.kept.1
  refine p_cons (s_call (xs := [Operand.tmp 6]) (args := [Value.agg (([Value.int .i64 x.1, Value.slice B x.2.1.length cb] ++ b16 (adr x) ++ [Value.slice T x.2.2.2.length ct])).toArray]) p23_3_1 hE wn_none rfl rfl Try.func56 cl56 (bytes_x x B T cb ct hc5 _ (fun W' hk => hF W' (K_0.then_ hk (fun _ h => h.elim))) (fun W' hk => hG W' (K_0.then_ hk (fun _ h => h.elim)))) ?_)
  rintro e w9 ⟨A7, n9, c8, rfl, hn9, O_q6, hk⟩
  subst hn9
  replace B_g1 := kp_blk B_g1 hk (fun h => h)
  replace K_0 := K_0.then_ hk (fun _ h => h.elim)
  have Nb_q6_g1 : ¬ OB A7 g1 := fun h => by have := (own_ob O_q6 h).1; have := hnb_g1; omega
  have Z_0_q6 : ∀ k, OB A7 k → (fun _ => False) k ∨ w.heap.size ≤ k := fun k h => .inr (by have := (own_ob O_q6 h).1; have := hnz_0; omega)
  replace O_q6 := own_lower O_q6 hnz_0
  refine ⟨_, rfl, ?_⟩; clear hE a; intro a hE
  refine q0 p23_3_2 hE (st_len Try.underlying22 rfl) ?_; clear hE a; intro a hE
  refine q0 p23_3_3 hE (st_assign rfl) ?_; clear hE a; intro a hE
  refine p_nil (x_norm (wp_ret ?_))
  refine ret_one (v := Value.int .i64 ((optB x).length : Int)) rfl hE (.tmp rfl .nil) ?_
  exact ⟨by unfold szO; rw [if_pos hc5], K_0⟩
 ·
  refine p_cons (s_still (v := Value.bool true) p23_1_2 hE wn_none rfl (st_neq rfl rfl (by rw [decide_eq_false hc5]; rfl)) ?_); clear hE a; intro a hE
  refine p_nil (x_norm ?_)
  refine c_cond (t := true) hE rfl ?_
  refine c_reg R23_2_l ?_
  refine q0 p23_2_0 hE (st_assign rfl) ?_; clear hE a; intro a hE
  refine p_nil (x_norm (wp_ret (x_ret ?_)))
  refine ret_one (v := Value.int .i64 0) rfl hE (.tmp rfl .nil) ?_
  exact ⟨by unfold szO; rw [if_neg hc5], K_0⟩
end Go.Proofs.Ytgpclehnomkbmaa.Dn
