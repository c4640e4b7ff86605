/- The law OptionJoins, walked. -/
import Derived.Test.YtndiddfleidnaaaOen
set_option maxRecDepth 100000
set_option linter.unusedVariables false
set_option linter.unusedSimpArgs false
namespace Go.Proofs.Ytndiddfleidnaaa.OJ
open Go.RowKit Go.Proofs.YtndiddfleidnaaaW.PrintWords Go.Proofs.Ytndiddfleidnaaa.Ds Go.Proofs.Ytndiddfleidnaaa.Op Go.Proofs.Ytndiddfleidnaaa.Oc Go.Proofs.Ytndiddfleidnaaa.Or Go.Proofs.Ytndiddfleidnaaa.Ow Go.Proofs.Ytndiddfleidnaaa.Ob Go.Proofs.Ytndiddfleidnaaa.Oe
open Go.Proofs.Ytndiddfleidnaaa.Pk (Kp fitsF spanF putF digF fits_any put_ok put_bd C_take)
theorem to_n (A : Option Addr) (c n : Nat) (ls : List OV) (hn : n = ls.length) (w : World) (hF : Kd.C dO w A ls.length ls) (hm : ls.length ≤ c) (hmx : ls.length ≤ 1954687338211) : Calls Try.prog 32 #[.slice A n c] w fun e w' => ∃ A' c', e = .returned (.slice A' (toL ls).length c') ∧ (toL ls).length ≤ c' ∧ (∀ W', Kp w' W' (fun _ => False) → Kd.C dO W' A' (toL ls).length (toL ls)) ∧ Kp w w' (fun _ => False) := by
  subst hn; exact to_any A c ls w hF hm hmx
theorem toL_len (ls : List OV) : (toL ls).length ≤ 20 := by unfold toL; rw [List.length_map, List.length_take]; omega
theorem toL_le (ls : List OV) : (toL ls).length ≤ ls.length := by unfold toL; rw [List.length_map, List.length_take]; omega
theorem firstBad_app : ∀ (xs ys : List OV), firstBad (xs ++ ys) = if firstBad xs = 0 then firstBad ys else firstBad xs
  | [], ys => rfl
  | x :: xs, ys => by
    show firstBad (x :: (xs ++ ys)) = _
    by_cases h : chkV x = 0
    · have e1 : firstBad (x :: xs) = firstBad xs := if_pos h
      have e2 : firstBad (x :: (xs ++ ys)) = firstBad (xs ++ ys) := if_pos h
      rw [e2, firstBad_app xs ys]
      simp only [e1]
    · have e1 : firstBad (x :: xs) = chkV x := if_neg h
      have e2 : firstBad (x :: (xs ++ ys)) = chkV x := if_neg h
      simp only [e1, e2, if_neg h]
theorem allB_app (xs ys : List OV) : allB (xs ++ ys) = allB xs ++ allB ys := by unfold allB; rw [List.map_append, List.flatten_append]
theorem encE_zero {xs : List OV} : encE xs = 0 ↔ xs.length ≤ 16 ∧ firstBad xs = 0 ∧ (allB xs).length ≤ 1280 := by
  unfold encE
  constructor
  · intro h
    split at h
    · cases h
    · split at h
      · rename_i h2; exact absurd h h2
      · split at h
        · cases h
        · rename_i h1 h2 h3; exact ⟨by omega, Decidable.byContradiction fun h4 => h2 h4, by omega⟩
  · rintro ⟨h1, h2, h3⟩
    rw [if_neg (by omega), if_neg (fun h => h h2), if_neg (by omega)]
theorem join_bad {xs ys : List OV} (hx : xs.length ≤ 8) (hy : ys.length ≤ 8) (h : ¬ (encE xs = 0 ∧ encE ys = 0)) : encE (xs ++ ys) ≠ 0 := fun h2 => by
  rw [encE_zero, firstBad_app, allB_app, List.length_append, List.length_append] at h2
  rw [encE_zero, encE_zero] at h
  obtain ⟨h3, h4, h5⟩ := h2
  by_cases h6 : firstBad xs = 0
  · rw [if_pos h6] at h4
    exact h ⟨⟨by omega, h6, by omega⟩, by omega, h4, by omega⟩
  · rw [if_neg h6] at h4
    exact h6 h4
theorem join_ok {xs ys : List OV} (hx : xs.length ≤ 8) (hy : ys.length ≤ 8) (h : encE xs = 0) (h' : encE ys = 0) : (encE (xs ++ ys) = 2 ∧ 1280 < (encB xs).length + (encB ys).length) ∨ (encE (xs ++ ys) = 0 ∧ encB (xs ++ ys) = encB xs ++ encB ys) := by
  have e1 := encE_zero.1 h
  have e2 := encE_zero.1 h'
  have b1 : encB xs = allB xs := if_pos h
  have b2 : encB ys = allB ys := if_pos h'
  by_cases hl : (allB xs).length + (allB ys).length ≤ 1280
  · have h0 : encE (xs ++ ys) = 0 := encE_zero.2 ⟨by rw [List.length_append]; omega, by rw [firstBad_app, if_pos e1.2.1]; exact e2.2.1, by rw [allB_app, List.length_append]; exact hl⟩
    exact .inr ⟨h0, by rw [b1, b2]; unfold encB; rw [if_pos h0, allB_app]⟩
  · refine .inl ⟨?_, by rw [b1, b2]; omega⟩
    unfold encE
    rw [if_neg (by rw [List.length_append]; omega), firstBad_app, if_pos e1.2.1, if_neg (fun h => h e2.2.1), if_pos (by rw [allB_app, List.length_append]; omega)]
theorem enc_n (A : Option Addr) (c n : Nat) (xs : List OV) (hn : n = xs.length) (w : World) (hF : Kd.C dO w A xs.length xs) (hmx : xs.length ≤ 1000000000000) : Calls Try.prog 33 #[.slice A n c] w fun e w' => ∃ A' c', e = .returned (.tuple #[.slice A' (encB xs).length c', .int .i64 (encE xs)]) ∧ (encB xs).length ≤ c' ∧ (∀ W', Kp w' W' (fun _ => False) → Kd.C (Kd.int .u8) W' A' (encB xs).length (encB xs)) ∧ Kp w w' (fun _ => False) := by
  subst hn; exact enc_any A c xs w hF hmx
theorem same_n (A0 A1 : Option Addr) (c0 c1 : Nat) (l0 l1 : List Int) (n : Nat) (hn : n = l1.length) (r : Bool) (hr : decide (l0 = l1) = r) (w : World) (h0 : Kd.C (Kd.int .u8) w A0 l0.length l0) (h0c : l0.length ≤ c0) (h1 : Kd.C (Kd.int .u8) w A1 n l1) (h1c : n ≤ c1) (hl : l0.length ≤ 1000000) : Calls Try.prog 21 #[.slice A0 l0.length c0, .slice A1 n c1] w fun e w' => e = .returned (.bool r) ∧ Kp w w' (fun _ => False) := by
  subst hn; exact Go.Proofs.Ytndiddfleidnaaa.Pk.same_any A0 A1 c0 c1 l0 l1 r hr w h0 h0c h1 h1c hl
theorem R7_0_l : List.range (regOf Try.f7 0).size = [0] := by kernel_rfl
theorem R7_1_l : List.range (regOf Try.f7 1).size = [0, 1, 2, 3, 4, 5, 6, 7, 8, 9, 10, 11, 12, 13] := by kernel_rfl
theorem R7_2_l : List.range (regOf Try.f7 2).size = [0, 1, 2, 3, 4, 5, 6] := by kernel_rfl
theorem R7_3_l : List.range (regOf Try.f7 3).size = [0, 1, 2, 3, 4, 5, 6] := by kernel_rfl
theorem R7_4_l : List.range (regOf Try.f7 4).size = [0, 1, 2, 3, 4, 5, 6, 7, 8, 9, 10] := by kernel_rfl
theorem R7_5_l : List.range (regOf Try.f7 5).size = [0, 1, 2, 3, 4, 5] := by kernel_rfl
theorem R7_6_l : List.range (regOf Try.f7 6).size = [0, 1, 2, 3, 4, 5] := by kernel_rfl
theorem R7_7_l : List.range (regOf Try.f7 7).size = [0, 1] := by kernel_rfl
theorem R7_8_l : List.range (regOf Try.f7 8).size = [0, 1, 2, 3, 4, 5, 6, 7, 8, 9] := by kernel_rfl
theorem R7_9_l : List.range (regOf Try.f7 9).size = [0, 1, 2, 3, 4, 5, 6, 7, 8, 9, 10, 11, 12, 13, 14] := by kernel_rfl
theorem body7 : Try.f7.body = some (.seq (.region 0 (regOf Try.f7 0) false) (.seq (.region 1 (regOf Try.f7 1) true) (.seq (.region 2 (regOf Try.f7 2) false) (.seq (.region 3 (regOf Try.f7 3) false) (.seq (.region 4 (regOf Try.f7 4) false) (.seq (.seq (.region 5 (regOf Try.f7 5) false) (.cond (Operand.tmp 49) (.seq (.region 6 (regOf Try.f7 6) false) (.ret)) (.skip))) (.seq (.seq (.region 7 (regOf Try.f7 7) false) (.cond (Operand.tmp 56) (.seq (.region 8 (regOf Try.f7 8) false) (.ret)) (.skip))) (.seq (.region 9 (regOf Try.f7 9) false) (.ret))))))))) := by kernel_rfl
theorem p7_0_0 : pj (regOf Try.f7 0) 0 = some (some 4, .assign (.const (.bool false)), 4, none) := by kernel_rfl
theorem ns7_1 : Region.noSelect (regOf Try.f7 1) = true := by kernel_rfl
theorem p7_1_0 : pj (regOf Try.f7 1) 0 = some (some 13, .move (.tmp 0), 57, none) := by kernel_rfl
theorem p7_1_1 : pj (regOf Try.f7 1) 1 = some (some 14, .move (.tmp 0), 57, none) := by kernel_rfl
theorem p7_1_2 : pj (regOf Try.f7 1) 2 = some (some 15, .call { callee := .builtin .len, args := #[.tmp 14], argTypes := #[57] }, 3, none) := by kernel_rfl
theorem p7_1_3 : pj (regOf Try.f7 1) 3 = some (some 16, .call { callee := .builtin .min, args := #[.tmp 15, .const (.int .i64 8)], argTypes := #[3, 3] }, 3, none) := by kernel_rfl
theorem p7_1_4 : pj (regOf Try.f7 1) 4 = some (some 17, .slice 57 (.tmp 13) none (some (.tmp 16)) none, 57, none) := by kernel_rfl
theorem tS80 : (Try.prog.info? 80).map (·.size) = some 19 := by kernel_rfl
theorem p7_1_6 : pj (regOf Try.f7 1) 6 = some (some 19, .move (.tmp 1), 57, none) := by kernel_rfl
theorem p7_1_7 : pj (regOf Try.f7 1) 7 = some (some 20, .move (.tmp 1), 57, none) := by kernel_rfl
theorem p7_1_8 : pj (regOf Try.f7 1) 8 = some (some 21, .call { callee := .builtin .len, args := #[.tmp 20], argTypes := #[57] }, 3, none) := by kernel_rfl
theorem p7_1_9 : pj (regOf Try.f7 1) 9 = some (some 22, .call { callee := .builtin .min, args := #[.tmp 21, .const (.int .i64 8)], argTypes := #[3, 3] }, 3, none) := by kernel_rfl
theorem p7_1_10 : pj (regOf Try.f7 1) 10 = some (some 23, .slice 57 (.tmp 19) none (some (.tmp 22)) none, 57, none) := by kernel_rfl
theorem p7_1_5 : pj (regOf Try.f7 1) 5 = some (some 18, .call { callee := .value (.func 32), args := #[.tmp 17], argTypes := #[57] }, 58, none) := by kernel_rfl
theorem cl32 : callable Try.f32 = true := by kernel_rfl
theorem p7_1_11 : pj (regOf Try.f7 1) 11 = some (some 24, .call { callee := .value (.func 32), args := #[.tmp 23], argTypes := #[57] }, 58, none) := by kernel_rfl
theorem p7_1_12 : pj (regOf Try.f7 1) 12 = some (some 5, .assign (.tmp 18), 58, none) := by kernel_rfl
theorem p7_1_13 : pj (regOf Try.f7 1) 13 = some (some 6, .assign (.tmp 24), 58, none) := by kernel_rfl
theorem p7_2_0 : pj (regOf Try.f7 2) 0 = some (some 26, .move (.tmp 5), 58, none) := by kernel_rfl
theorem p7_2_1 : pj (regOf Try.f7 2) 1 = some (some 27, .call { callee := .value (.func 33), args := #[.tmp 26], argTypes := #[58] }, 37, none) := by kernel_rfl
theorem cl33 : callable Try.f33 = true := by kernel_rfl
theorem p7_2_2 : pj (regOf Try.f7 2) 2 = some (some 25, .move (.tmp 27), 37, none) := by kernel_rfl
theorem p7_2_3 : pj (regOf Try.f7 2) 3 = some (some 28, .extract (.tmp 25) 0, 36, none) := by kernel_rfl
theorem p7_2_4 : pj (regOf Try.f7 2) 4 = some (some 29, .extract (.tmp 25) 1, 29, none) := by kernel_rfl
theorem p7_2_5 : pj (regOf Try.f7 2) 5 = some (some 7, .assign (.tmp 28), 36, none) := by kernel_rfl
theorem p7_2_6 : pj (regOf Try.f7 2) 6 = some (some 8, .assign (.tmp 29), 29, none) := by kernel_rfl
theorem p7_3_0 : pj (regOf Try.f7 3) 0 = some (some 31, .move (.tmp 6), 58, none) := by kernel_rfl
theorem p7_3_1 : pj (regOf Try.f7 3) 1 = some (some 32, .call { callee := .value (.func 33), args := #[.tmp 31], argTypes := #[58] }, 37, none) := by kernel_rfl
theorem p7_3_2 : pj (regOf Try.f7 3) 2 = some (some 30, .move (.tmp 32), 37, none) := by kernel_rfl
theorem p7_3_3 : pj (regOf Try.f7 3) 3 = some (some 33, .extract (.tmp 30) 0, 36, none) := by kernel_rfl
theorem p7_3_4 : pj (regOf Try.f7 3) 4 = some (some 34, .extract (.tmp 30) 1, 29, none) := by kernel_rfl
theorem p7_3_5 : pj (regOf Try.f7 3) 5 = some (some 9, .assign (.tmp 33), 36, none) := by kernel_rfl
theorem p7_3_6 : pj (regOf Try.f7 3) 6 = some (some 10, .assign (.tmp 34), 29, none) := by kernel_rfl
theorem p7_4_0 : pj (regOf Try.f7 4) 0 = some (some 36, .buildSlice 58 0 #[], 58, none) := by kernel_rfl
theorem p7_4_1 : pj (regOf Try.f7 4) 1 = some (some 37, .move (.tmp 5), 58, none) := by kernel_rfl
theorem p7_4_2 : pj (regOf Try.f7 4) 2 = some (some 38, .call { callee := .builtin .append, args := #[.tmp 36, .tmp 37], argTypes := #[58, 58] }, 58, none) := by kernel_rfl
theorem eD64 : elemD Try.prog 64 = some (19, 19, 72) := by kernel_rfl
theorem p7_4_3 : pj (regOf Try.f7 4) 3 = some (some 39, .move (.tmp 6), 58, none) := by kernel_rfl
theorem p7_4_4 : pj (regOf Try.f7 4) 4 = some (some 40, .call { callee := .builtin .append, args := #[.tmp 38, .tmp 39], argTypes := #[58, 58] }, 58, none) := by kernel_rfl
theorem p7_4_5 : pj (regOf Try.f7 4) 5 = some (some 41, .call { callee := .value (.func 33), args := #[.tmp 40], argTypes := #[58] }, 37, none) := by kernel_rfl
theorem p7_4_6 : pj (regOf Try.f7 4) 6 = some (some 35, .move (.tmp 41), 37, none) := by kernel_rfl
theorem p7_4_7 : pj (regOf Try.f7 4) 7 = some (some 42, .extract (.tmp 35) 0, 36, none) := by kernel_rfl
theorem p7_4_8 : pj (regOf Try.f7 4) 8 = some (some 43, .extract (.tmp 35) 1, 29, none) := by kernel_rfl
theorem p7_4_9 : pj (regOf Try.f7 4) 9 = some (some 11, .assign (.tmp 42), 36, none) := by kernel_rfl
theorem p7_4_10 : pj (regOf Try.f7 4) 10 = some (some 12, .assign (.tmp 43), 29, none) := by kernel_rfl
theorem p7_5_0 : pj (regOf Try.f7 5) 0 = some (some 44, .move (.tmp 8), 29, none) := by kernel_rfl
theorem p7_5_1 : pj (regOf Try.f7 5) 1 = some (some 45, .binOp .neq 29 (.tmp 44) (.const (.int .i64 0)) 29, 4, none) := by kernel_rfl
theorem p7_5_2 : pj (regOf Try.f7 5) 2 = some (some 46, .move (.tmp 45), 4, none) := by kernel_rfl
theorem p7_5_3 : pj (regOf Try.f7 5) 3 = some (some 47, .move (.tmp 10), 29, some (2, false)) := by kernel_rfl
theorem g7_5_2 : dstOf (regOf Try.f7 5) 2 = some 46 := by kernel_rfl
theorem p7_5_4 : pj (regOf Try.f7 5) 4 = some (some 48, .binOp .neq 29 (.tmp 47) (.const (.int .i64 0)) 29, 4, some (2, false)) := by kernel_rfl
theorem p7_5_5 : pj (regOf Try.f7 5) 5 = some (some 49, .pick (.tmp 46) (.const (.bool true)) (.tmp 48), 4, none) := by kernel_rfl
theorem p7_7_0 : pj (regOf Try.f7 7) 0 = some (some 55, .move (.tmp 12), 29, none) := by kernel_rfl
theorem p7_7_1 : pj (regOf Try.f7 7) 1 = some (some 56, .binOp .eql 29 (.tmp 55) (.const (.int .i64 2)) 29, 4, none) := by kernel_rfl
theorem p7_8_0 : pj (regOf Try.f7 8) 0 = some (some 57, .call { callee := .value (.func 34), args := #[], argTypes := #[] }, 4, none) := by kernel_rfl
theorem cl34 : callable Try.f34 = true := by kernel_rfl
theorem p7_8_1 : pj (regOf Try.f7 8) 1 = some (some 58, .move (.tmp 57), 4, none) := by kernel_rfl
theorem p7_8_2 : pj (regOf Try.f7 8) 2 = some (some 59, .move (.tmp 7), 36, some (1, true)) := by kernel_rfl
theorem g7_8_1 : dstOf (regOf Try.f7 8) 1 = some 58 := by kernel_rfl
theorem p7_8_3 : pj (regOf Try.f7 8) 3 = some (some 60, .call { callee := .builtin .len, args := #[.tmp 59], argTypes := #[36] }, 3, some (1, true)) := by kernel_rfl
theorem p7_8_4 : pj (regOf Try.f7 8) 4 = some (some 61, .move (.tmp 9), 36, some (1, true)) := by kernel_rfl
theorem p7_8_5 : pj (regOf Try.f7 8) 5 = some (some 62, .call { callee := .builtin .len, args := #[.tmp 61], argTypes := #[36] }, 3, some (1, true)) := by kernel_rfl
theorem p7_8_6 : pj (regOf Try.f7 8) 6 = some (some 63, .binOp .add 3 (.tmp 60) (.tmp 62) 3, 3, some (1, true)) := by kernel_rfl
theorem p7_8_7 : pj (regOf Try.f7 8) 7 = some (some 64, .binOp .gtr 3 (.tmp 63) (.const (.int .i64 1280)) 3, 4, some (1, true)) := by kernel_rfl
theorem p7_8_8 : pj (regOf Try.f7 8) 8 = some (some 65, .pick (.tmp 58) (.tmp 64) (.const (.bool false)), 4, none) := by kernel_rfl
theorem p7_8_9 : pj (regOf Try.f7 8) 9 = some (some 4, .assign (.tmp 65), 4, none) := by kernel_rfl
theorem p7_9_0 : pj (regOf Try.f7 9) 0 = some (some 66, .call { callee := .value (.func 34), args := #[], argTypes := #[] }, 4, none) := by kernel_rfl
theorem p7_9_1 : pj (regOf Try.f7 9) 1 = some (some 67, .move (.tmp 66), 4, none) := by kernel_rfl
theorem p7_9_2 : pj (regOf Try.f7 9) 2 = some (some 68, .move (.tmp 12), 29, some (1, true)) := by kernel_rfl
theorem g7_9_1 : dstOf (regOf Try.f7 9) 1 = some 67 := by kernel_rfl
theorem p7_9_3 : pj (regOf Try.f7 9) 3 = some (some 69, .binOp .eql 29 (.tmp 68) (.const (.int .i64 0)) 29, 4, some (1, true)) := by kernel_rfl
theorem p7_9_4 : pj (regOf Try.f7 9) 4 = some (some 70, .pick (.tmp 67) (.tmp 69) (.const (.bool false)), 4, none) := by kernel_rfl
theorem p7_9_5 : pj (regOf Try.f7 9) 5 = some (some 71, .move (.tmp 70), 4, none) := by kernel_rfl
theorem p7_9_6 : pj (regOf Try.f7 9) 6 = some (some 72, .move (.tmp 11), 36, some (5, true)) := by kernel_rfl
theorem g7_9_5 : dstOf (regOf Try.f7 9) 5 = some 71 := by kernel_rfl
theorem p7_9_7 : pj (regOf Try.f7 9) 7 = some (some 73, .buildSlice 36 0 #[], 36, some (5, true)) := by kernel_rfl
theorem p7_9_8 : pj (regOf Try.f7 9) 8 = some (some 74, .move (.tmp 7), 36, some (5, true)) := by kernel_rfl
theorem p7_9_9 : pj (regOf Try.f7 9) 9 = some (some 75, .call { callee := .builtin .append, args := #[.tmp 73, .tmp 74], argTypes := #[36, 36] }, 36, some (5, true)) := by kernel_rfl
theorem eD5 : elemD Try.prog 5 = some (1, 1, 1) := by kernel_rfl
theorem p7_9_10 : pj (regOf Try.f7 9) 10 = some (some 76, .move (.tmp 9), 36, some (5, true)) := by kernel_rfl
theorem p7_9_11 : pj (regOf Try.f7 9) 11 = some (some 77, .call { callee := .builtin .append, args := #[.tmp 75, .tmp 76], argTypes := #[36, 36] }, 36, some (5, true)) := by kernel_rfl
theorem p7_9_12 : pj (regOf Try.f7 9) 12 = some (some 78, .call { callee := .value (.func 21), args := #[.tmp 72, .tmp 77], argTypes := #[36, 36] }, 4, some (5, true)) := by kernel_rfl
theorem cl21 : callable Try.f21 = true := by kernel_rfl
theorem p7_9_13 : pj (regOf Try.f7 9) 13 = some (some 79, .pick (.tmp 71) (.tmp 78) (.const (.bool false)), 4, none) := by kernel_rfl
theorem p7_9_14 : pj (regOf Try.f7 9) 14 = some (some 4, .assign (.tmp 79), 4, none) := by kernel_rfl
theorem p7_6_0 : pj (regOf Try.f7 6) 0 = some (some 50, .call { callee := .value (.func 34), args := #[], argTypes := #[] }, 4, none) := by kernel_rfl
theorem p7_6_1 : pj (regOf Try.f7 6) 1 = some (some 51, .move (.tmp 50), 4, none) := by kernel_rfl
theorem p7_6_2 : pj (regOf Try.f7 6) 2 = some (some 52, .move (.tmp 12), 29, some (1, true)) := by kernel_rfl
theorem g7_6_1 : dstOf (regOf Try.f7 6) 1 = some 51 := by kernel_rfl
theorem p7_6_3 : pj (regOf Try.f7 6) 3 = some (some 53, .binOp .neq 29 (.tmp 52) (.const (.int .i64 0)) 29, 4, some (1, true)) := by kernel_rfl
theorem p7_6_4 : pj (regOf Try.f7 6) 4 = some (some 54, .pick (.tmp 51) (.tmp 53) (.const (.bool false)), 4, none) := by kernel_rfl
theorem p7_6_5 : pj (regOf Try.f7 6) 5 = some (some 4, .assign (.tmp 54), 4, none) := by kernel_rfl
set_option maxHeartbeats 4000000 in
theorem walk (a0 : Option Addr) (cap0 : Nat) (z0 : List (Int × (List Int) × (List Int) × (List Int))) (a1 : Option Addr) (cap1 : Nat) (z1 : List (Int × (List Int) × (List Int) × (List Int))) (w : World) (w0 : Kd.C dO w a0 z0.length z0) (m0 : z0.length ≤ cap0) (o0 : (z0.length ≤ maxLen ∧ ∀ x0 ∈ z0, ((Lit.int .i64 x0.1).wf = true ∧ ((x0.2.1.length ≤ maxLen ∧ ∀ x1 ∈ x0.2.1, (Lit.int .i64 x1).wf = true) ∧ ((x0.2.2.1.length = 16 ∧ ∀ x1 ∈ x0.2.2.1, (Lit.int .u8 x1).wf = true) ∧ ((x0.2.2.2.length ≤ maxLen ∧ ∀ x1 ∈ x0.2.2.2, (Lit.int .u8 x1).wf = true))))))) (y0 : z0.length * Try.prog.bytesOf 80 ≤ 140737488351232) (w1 : Kd.C dO w a1 z1.length z1) (m1 : z1.length ≤ cap1) (o1 : (z1.length ≤ maxLen ∧ ∀ x0 ∈ z1, ((Lit.int .i64 x0.1).wf = true ∧ ((x0.2.1.length ≤ maxLen ∧ ∀ x1 ∈ x0.2.1, (Lit.int .i64 x1).wf = true) ∧ ((x0.2.2.1.length = 16 ∧ ∀ x1 ∈ x0.2.2.1, (Lit.int .u8 x1).wf = true) ∧ ((x0.2.2.2.length ≤ maxLen ∧ ∀ x1 ∈ x0.2.2.2, (Lit.int .u8 x1).wf = true))))))) (y1 : z1.length * Try.prog.bytesOf 80 ≤ 140737488351232) : Calls Try.prog 7 #[.slice a0 z0.length cap0, .slice a1 z1.length cap1] w fun e w' => e = .returned (.bool true) ∧ Below w.heap.size w w' := by
  have K_0 := Kp.refl w (fun _ => False)
  have Fz0 := w0
  have Fz1 := w1
  have hX8 : (toL (z0.take (min z0.length 8))).length ≤ 8 := by have := toL_le (z0.take (min z0.length 8)); rw [List.length_take] at this; omega
  have hY8 : (toL (z1.take (min z1.length 8))).length ≤ 8 := by have := toL_le (z1.take (min z1.length 8)); rw [List.length_take] at this; omega
  have hbX := encB_bd (toL (z0.take (min z0.length 8))) (.inr trivial)
  have hbY := encB_bd (toL (z1.take (min z1.length 8))) (.inr trivial)
  refine enter (args := [Value.slice a0 z0.length cap0, Value.slice a1 z1.length cap1]) (n := 80) Try.func7 body7 rfl rfl rfl ?_
  intro a hE
  refine c_reg R7_0_l ?_
  refine q0 p7_0_0 hE (st_assign rfl) ?_
  clear hE a; intro a hE
  refine p_nil ?_
  refine x_norm ?_
  refine c_drawS (S := fun W => True) rfl rfl (listed := #[false, false, false, false, false, false, false, false, false, false, false, false, false, false]) rfl ?_
  intro w1 hh hk
  replace K_0 := K_0.then_ hk (fun _ h => h.elim)
  clear hh hk
  refine d_take (v := Value.slice a0 z0.length cap0) p7_1_0 ns7_1 (by kernel_rfl) (by kernel_rfl) (fun _ _ _ h => h) hE wn_none rfl trivial (fun W hS => (st_move rfl)) rfl ?_
  clear hE a; intro a hE
  refine d_take (v := Value.slice a0 z0.length cap0) p7_1_1 ns7_1 (by kernel_rfl) (by kernel_rfl) (fun _ _ _ h => h) hE wn_none rfl trivial (fun W hS => (st_move rfl)) rfl ?_
  clear hE a; intro a hE
  refine d_take (v := Value.int .i64 (z0.length : Int)) p7_1_2 ns7_1 (by kernel_rfl) (by kernel_rfl) (fun _ _ _ h => h) hE wn_none rfl trivial (fun W hS => (st_len Try.underlying57 rfl)) rfl ?_
  clear hE a; intro a hE
  refine d_take (v := Value.int .i64 ((min z0.length 8 : Nat) : Int)) p7_1_3 ns7_1 (by kernel_rfl) (by kernel_rfl) (fun _ _ _ h => h) hE wn_none rfl trivial (fun W hS => (st_min (z := ((min z0.length 8 : Nat) : Int)) rfl rfl (by rw [Nat.min_def]; split <;> split <;> omega))) rfl ?_
  clear hE a; intro a hE
  refine d_take (v := Value.slice a0 (min z0.length 8) cap0) p7_1_4 ns7_1 (by kernel_rfl) (by kernel_rfl) (fun _ _ _ h => h) hE wn_none rfl trivial (fun W hS => (st_sliceH (h := min z0.length 8) Try.underlying57 tS80 rfl rfl (by omega))) rfl ?_
  clear hE a; intro a hE
  refine d_take (v := Value.slice a1 z1.length cap1) p7_1_6 ns7_1 (by kernel_rfl) (by kernel_rfl) (fun _ _ _ h => h) hE wn_none rfl trivial (fun W hS => (st_move rfl)) rfl ?_
  clear hE a; intro a hE
  refine d_take (v := Value.slice a1 z1.length cap1) p7_1_7 ns7_1 (by kernel_rfl) (by kernel_rfl) (fun _ _ _ h => h) hE wn_none rfl trivial (fun W hS => (st_move rfl)) rfl ?_
  clear hE a; intro a hE
  refine d_take (v := Value.int .i64 (z1.length : Int)) p7_1_8 ns7_1 (by kernel_rfl) (by kernel_rfl) (fun _ _ _ h => h) hE wn_none rfl trivial (fun W hS => (st_len Try.underlying57 rfl)) rfl ?_
  clear hE a; intro a hE
  refine d_take (v := Value.int .i64 ((min z1.length 8 : Nat) : Int)) p7_1_9 ns7_1 (by kernel_rfl) (by kernel_rfl) (fun _ _ _ h => h) hE wn_none rfl trivial (fun W hS => (st_min (z := ((min z1.length 8 : Nat) : Int)) rfl rfl (by rw [Nat.min_def]; split <;> split <;> omega))) rfl ?_
  clear hE a; intro a hE
  refine d_take (v := Value.slice a1 (min z1.length 8) cap1) p7_1_10 ns7_1 (by kernel_rfl) (by kernel_rfl) (fun _ _ _ h => h) hE wn_none rfl trivial (fun W hS => (st_sliceH (h := min z1.length 8) Try.underlying57 tS80 rfl rfl (by omega))) rfl ?_
  clear hE a; intro a hE
  refine d_one (by kernel_rfl) rfl (s_call (xs := [Operand.tmp 17]) (args := [Value.slice a0 (min z0.length 8) cap0]) p7_1_5 hE wn_none rfl rfl Try.func32 cl32 (to_n a0 cap0 (min z0.length 8) (z0.take (min z0.length 8)) (by rw [List.length_take]; omega) _ (by have := C_take (C_to Fz0 K_0) (show min z0.length 8 ≤ z0.length by omega); rw [show ((z0.take (min z0.length 8))).length = min z0.length 8 by rw [List.length_take]; omega]; exact this) (by rw [List.length_take]; omega) (by rw [List.length_take]; omega)) ?_)
  rintro e w5 ⟨A2, c3, rfl, hcapf4, hF9, hk⟩
  replace K_0 := K_0.then_ hk (fun _ h => h.elim)
  have K_s6 := Kp.refl w5 (fun _ => False)
  have hRf4 := hF9 _ (Kp.refl _ _)
  refine ⟨_, rfl, ?_⟩
  clear hE a; intro a hE
  refine ⟨trivial, ?_⟩
  refine d_one (by kernel_rfl) rfl (s_call (xs := [Operand.tmp 23]) (args := [Value.slice a1 (min z1.length 8) cap1]) p7_1_11 hE wn_none rfl rfl Try.func32 cl32 (to_n a1 cap1 (min z1.length 8) (z1.take (min z1.length 8)) (by rw [List.length_take]; omega) _ (by have := C_take (C_to Fz1 K_0) (show min z1.length 8 ≤ z1.length by omega); rw [show ((z1.take (min z1.length 8))).length = min z1.length 8 by rw [List.length_take]; omega]; exact this) (by rw [List.length_take]; omega) (by rw [List.length_take]; omega)) ?_)
  rintro e w10 ⟨A7, c8, rfl, hcapf9, hF9, hk⟩
  replace K_0 := K_0.then_ hk (fun _ h => h.elim)
  replace K_s6 := K_s6.then_ hk (fun _ h => h.elim)
  have K_s11 := Kp.refl w10 (fun _ => False)
  have hRf9 := hF9 _ (Kp.refl _ _)
  refine ⟨_, rfl, ?_⟩
  clear hE a; intro a hE
  refine ⟨trivial, ?_⟩
  refine d_take (v := Value.slice A2 ((toL (z0.take (min z0.length 8))).length) c3) p7_1_12 ns7_1 (by kernel_rfl) (by kernel_rfl) (fun _ _ _ h => h) hE wn_none rfl trivial (fun W hS => (st_assign rfl)) rfl ?_
  clear hE a; intro a hE
  refine d_take (v := Value.slice A7 ((toL (z1.take (min z1.length 8))).length) c8) p7_1_13 ns7_1 (by kernel_rfl) (by kernel_rfl) (fun _ _ _ h => h) hE wn_none rfl trivial (fun W hS => (st_assign rfl)) rfl ?_
  clear hE a; intro a hE
  refine d_end (by kernel_rfl) ?_
  refine x_norm ?_
  refine c_reg R7_2_l ?_
  refine q0 p7_2_0 hE (st_move rfl) ?_
  clear hE a; intro a hE
  refine p_cons (s_call (xs := [Operand.tmp 26]) (args := [Value.slice A2 ((toL (z0.take (min z0.length 8))).length) c3]) p7_2_1 hE wn_none rfl rfl Try.func33 cl33 (enc_any A2 c3 (toL (z0.take (min z0.length 8))) _ (C_to hRf4 K_s6) (by first | omega | decide)) ?_)
  rintro e w15 ⟨A12, c13, rfl, hcapf14, hF9, hk⟩
  replace K_0 := K_0.then_ hk (fun _ h => h.elim)
  replace K_s6 := K_s6.then_ hk (fun _ h => h.elim)
  replace K_s11 := K_s11.then_ hk (fun _ h => h.elim)
  have K_s16 := Kp.refl w15 (fun _ => False)
  have hRf14 := hF9 _ (Kp.refl _ _)
  refine ⟨_, rfl, ?_⟩
  clear hE a; intro a hE
  refine q0 p7_2_2 hE (st_move rfl) ?_
  clear hE a; intro a hE
  refine q0 p7_2_3 hE (st_extract rfl rfl) ?_
  clear hE a; intro a hE
  refine q0 p7_2_4 hE (st_extract rfl rfl) ?_
  clear hE a; intro a hE
  refine q0 p7_2_5 hE (st_assign rfl) ?_
  clear hE a; intro a hE
  refine q0 p7_2_6 hE (st_assign rfl) ?_
  clear hE a; intro a hE
  refine p_nil ?_
  refine x_norm ?_
  refine c_reg R7_3_l ?_
  refine q0 p7_3_0 hE (st_move rfl) ?_
  clear hE a; intro a hE
  refine p_cons (s_call (xs := [Operand.tmp 31]) (args := [Value.slice A7 ((toL (z1.take (min z1.length 8))).length) c8]) p7_3_1 hE wn_none rfl rfl Try.func33 cl33 (enc_any A7 c8 (toL (z1.take (min z1.length 8))) _ (C_to hRf9 K_s11) (by first | omega | decide)) ?_)
  rintro e w20 ⟨A17, c18, rfl, hcapf19, hF9, hk⟩
  replace K_0 := K_0.then_ hk (fun _ h => h.elim)
  replace K_s6 := K_s6.then_ hk (fun _ h => h.elim)
  replace K_s11 := K_s11.then_ hk (fun _ h => h.elim)
  replace K_s16 := K_s16.then_ hk (fun _ h => h.elim)
  have K_s21 := Kp.refl w20 (fun _ => False)
  have hRf19 := hF9 _ (Kp.refl _ _)
  refine ⟨_, rfl, ?_⟩
  clear hE a; intro a hE
  refine q0 p7_3_2 hE (st_move rfl) ?_
  clear hE a; intro a hE
  refine q0 p7_3_3 hE (st_extract rfl rfl) ?_
  clear hE a; intro a hE
  refine q0 p7_3_4 hE (st_extract rfl rfl) ?_
  clear hE a; intro a hE
  refine q0 p7_3_5 hE (st_assign rfl) ?_
  clear hE a; intro a hE
  refine q0 p7_3_6 hE (st_assign rfl) ?_
  clear hE a; intro a hE
  refine p_nil ?_
  refine x_norm ?_
  refine c_reg R7_4_l ?_
  refine p_cons (s_row (xs := []) (vs := []) (cs := #[]) p7_4_0 hE wn_none rfl Try.underlying58 rfl (by kernel_rfl) ?_)
  clear hE a; intro g22 w23 z24 B_g22 hk a hE
  have z_0_g22 := Nat.le_trans K_0.kept.1 z24
  have z_s6_g22 := Nat.le_trans K_s6.kept.1 z24
  have z_s11_g22 := Nat.le_trans K_s11.kept.1 z24
  have z_s16_g22 := Nat.le_trans K_s16.kept.1 z24
  have z_s21_g22 := Nat.le_trans K_s21.kept.1 z24
  replace K_0 := K_0.then_ hk (fun _ h => h.elim)
  replace K_s6 := K_s6.then_ hk (fun _ h => h.elim)
  replace K_s11 := K_s11.then_ hk (fun _ h => h.elim)
  replace K_s16 := K_s16.then_ hk (fun _ h => h.elim)
  replace K_s21 := K_s21.then_ hk (fun _ h => h.elim)
  clear hk
  refine q0 p7_4_1 hE (st_move rfl) ?_
  clear hE a; intro a hE
  have O_q25 := own_blk0 (s := 19) B_g22 (show w.heap.size ≤ g22 from z_0_g22)
  have Z_0_q25 : ∀ k, OB (some ⟨g22, 0, none⟩) k → (fun _ => False) k ∨ w.heap.size ≤ k := fun k h => by have h := ob_blk.1 h; subst h; exact Or.inr z_0_g22
  have Z_s6_q25 : ∀ k, OB (some ⟨g22, 0, none⟩) k → (fun _ => False) k ∨ w5.heap.size ≤ k := fun k h => by have h := ob_blk.1 h; subst h; exact Or.inr z_s6_g22
  have Z_s11_q25 : ∀ k, OB (some ⟨g22, 0, none⟩) k → (fun _ => False) k ∨ w10.heap.size ≤ k := fun k h => by have h := ob_blk.1 h; subst h; exact Or.inr z_s11_g22
  have Z_s16_q25 : ∀ k, OB (some ⟨g22, 0, none⟩) k → (fun _ => False) k ∨ w15.heap.size ≤ k := fun k h => by have h := ob_blk.1 h; subst h; exact Or.inr z_s16_g22
  have Z_s21_q25 : ∀ k, OB (some ⟨g22, 0, none⟩) k → (fun _ => False) k ∨ w20.heap.size ≤ k := fun k h => by have h := ob_blk.1 h; subst h; exact Or.inr z_s21_g22
  refine p_cons (s_appendR (s := 19) (xs := []) p7_4_2 hE wn_none rfl Try.underlying58 eD64 (by decide) rfl O_q25 rfl hRf4 K_s6 rfl (by omega) (by omega) K_0.kept.1 ?_)
  clear hE a; intro news26 hrnews26 Aq2527 cq2528 w29 O_q25' hk hat a hE
  have Z_0_q25' := grow_z Z_0_q25 K_0.kept.1 hat
  have Z_s6_q25' := grow_z Z_s6_q25 K_s6.kept.1 hat
  have Z_s11_q25' := grow_z Z_s11_q25 K_s11.kept.1 hat
  have Z_s16_q25' := grow_z Z_s16_q25 K_s16.kept.1 hat
  have Z_s21_q25' := grow_z Z_s21_q25 K_s21.kept.1 hat
  replace K_0 := K_0.then_ hk Z_0_q25
  replace K_s6 := K_s6.then_ hk Z_s6_q25
  replace K_s11 := K_s11.then_ hk Z_s11_q25
  replace K_s16 := K_s16.then_ hk Z_s16_q25
  replace K_s21 := K_s21.then_ hk Z_s21_q25
  replace Z_0_q25 := Z_0_q25'
  replace Z_s6_q25 := Z_s6_q25'
  replace Z_s11_q25 := Z_s11_q25'
  replace Z_s16_q25 := Z_s16_q25'
  replace Z_s21_q25 := Z_s21_q25'
  replace O_q25 := O_q25'
  try clear O_q25'
  clear hk hat
  refine q0 p7_4_3 hE (st_move rfl) ?_
  clear hE a; intro a hE
  refine p_cons (s_appendR (s := 19) (xs := ([] ++ news26)) p7_4_4 hE wn_none rfl Try.underlying58 eD64 (by decide) rfl O_q25 rfl hRf9 K_s11 rfl (by omega) (by omega) K_0.kept.1 ?_)
  clear hE a; intro news30 hrnews30 Aq2531 cq2532 w33 O_q25' hk hat a hE
  have Z_0_q25' := grow_z Z_0_q25 K_0.kept.1 hat
  have Z_s6_q25' := grow_z Z_s6_q25 K_s6.kept.1 hat
  have Z_s11_q25' := grow_z Z_s11_q25 K_s11.kept.1 hat
  have Z_s16_q25' := grow_z Z_s16_q25 K_s16.kept.1 hat
  have Z_s21_q25' := grow_z Z_s21_q25 K_s21.kept.1 hat
  replace K_0 := K_0.then_ hk Z_0_q25
  replace K_s6 := K_s6.then_ hk Z_s6_q25
  replace K_s11 := K_s11.then_ hk Z_s11_q25
  replace K_s16 := K_s16.then_ hk Z_s16_q25
  replace K_s21 := K_s21.then_ hk Z_s21_q25
  replace Z_0_q25 := Z_0_q25'
  replace Z_s6_q25 := Z_s6_q25'
  replace Z_s11_q25 := Z_s11_q25'
  replace Z_s16_q25 := Z_s16_q25'
  replace Z_s21_q25 := Z_s21_q25'
  replace O_q25 := O_q25'
  try clear O_q25'
  clear hk hat
  have hrX := hrnews26.imp_ (fun p c h => dO.K_below (K_s6.to (Nat.le_refl _) (fun _ h => h.elim)) h)
  have hrY := hrnews30.imp_ (fun p c h => dO.K_below (K_s11.to (Nat.le_refl _) (fun _ h => h.elim)) h)
  have hCj := own_C (d := dO) (xs := (toL (z0.take (min z0.length 8))) ++ (toL (z1.take (min z1.length 8)))) O_q25 (by rw [List.nil_append]; exact Kd.reps_append hrX hrY) (by simp)
  have hlj : ((toL (z0.take (min z0.length 8))) ++ (toL (z1.take (min z1.length 8)))).length = ((0 + (toL (z0.take (min z0.length 8))).length) + (toL (z1.take (min z1.length 8))).length) := by simp
  refine p_cons (s_call (xs := [Operand.tmp 40]) (args := [Value.slice Aq2531 ((0 + (toL (z0.take (min z0.length 8))).length) + (toL (z1.take (min z1.length 8))).length) cq2532]) p7_4_5 hE wn_none rfl rfl Try.func33 cl33 (enc_n Aq2531 cq2532 ((0 + (toL (z0.take (min z0.length 8))).length) + (toL (z1.take (min z1.length 8))).length) ((toL (z0.take (min z0.length 8))) ++ (toL (z1.take (min z1.length 8)))) hlj.symm _ (by rw [hlj]; exact hCj) (by rw [List.length_append]; omega)) ?_)
  rintro e w37 ⟨A34, c35, rfl, hcapf36, hF9, hk⟩
  replace O_q25 := own_keep O_q25 hk (fun _ _ h => h)
  replace K_0 := K_0.then_ hk (fun _ h => h.elim)
  replace K_s6 := K_s6.then_ hk (fun _ h => h.elim)
  replace K_s11 := K_s11.then_ hk (fun _ h => h.elim)
  replace K_s16 := K_s16.then_ hk (fun _ h => h.elim)
  replace K_s21 := K_s21.then_ hk (fun _ h => h.elim)
  have K_s38 := Kp.refl w37 (fun _ => False)
  have hRf36 := hF9 _ (Kp.refl _ _)
  refine ⟨_, rfl, ?_⟩
  clear hE a; intro a hE
  refine q0 p7_4_6 hE (st_move rfl) ?_
  clear hE a; intro a hE
  refine q0 p7_4_7 hE (st_extract rfl rfl) ?_
  clear hE a; intro a hE
  refine q0 p7_4_8 hE (st_extract rfl rfl) ?_
  clear hE a; intro a hE
  refine q0 p7_4_9 hE (st_assign rfl) ?_
  clear hE a; intro a hE
  refine q0 p7_4_10 hE (st_assign rfl) ?_
  clear hE a; intro a hE
  refine p_nil ?_
  refine x_norm ?_
  refine wp_seq ?_
  rcases Decidable.em (encE (toL (z0.take (min z0.length 8))) = 0) with hEX | hEX
  ·
    rcases Decidable.em (encE (toL (z1.take (min z1.length 8))) = 0) with hEY | hEY
    ·
      rcases Decidable.em (encE ((toL (z0.take (min z0.length 8))) ++ (toL (z1.take (min z1.length 8)))) = 2) with hEG | hEG
      ·
        have hj := join_ok hX8 hY8 hEX hEY
        have hj2 : 1280 < (encB (toL (z0.take (min z0.length 8)))).length + (encB (toL (z1.take (min z1.length 8)))).length := by
            rcases hj with h | h
            · exact h.2
            · exfalso; rw [h.1] at hEG; exact absurd hEG (by decide)
        refine c_reg R7_5_l ?_
        refine q0 p7_5_0 hE (st_move rfl) ?_
        clear hE a; intro a hE
        refine q0 p7_5_1 hE (st_neq (b := false) rfl rfl (by simp [hEX])) ?_
        clear hE a; intro a hE
        refine q0 p7_5_2 hE (st_move rfl) ?_
        clear hE a; intro a hE
        refine p_cons (s_still p7_5_3 hE (wn_some g7_5_2 rfl rfl) rfl (st_move rfl) ?_)
        clear hE a; intro a hE
        refine p_cons (s_still p7_5_4 hE (wn_some g7_5_2 rfl rfl) rfl (st_neq (b := false) rfl rfl (by simp [hEY])) ?_)
        clear hE a; intro a hE
        refine q0 p7_5_5 hE (st_pick rfl rfl) ?_
        clear hE a; intro a hE
        refine p_nil ?_
        refine x_norm ?_
        refine c_cond (t := false) hE rfl ?_
        refine wp_skip ?_
        refine x_norm ?_
        refine wp_seq ?_
        refine c_reg R7_7_l ?_
        refine q0 p7_7_0 hE (st_move rfl) ?_
        clear hE a; intro a hE
        refine q0 p7_7_1 hE (st_eql (b := true) rfl rfl (decide_eq_true hEG)) ?_
        clear hE a; intro a hE
        refine p_nil ?_
        refine x_norm ?_
        refine c_cond (t := true) hE rfl ?_
        refine c_reg R7_8_l ?_
        refine p_cons (s_call (xs := []) (args := []) p7_8_0 hE wn_none rfl rfl Try.func34 cl34 (known_any  _) ?_)
        rintro e w39 ⟨rfl, hk⟩
        replace O_q25 := own_keep O_q25 hk (fun _ _ h => h)
        replace K_0 := K_0.then_ hk (fun _ h => h.elim)
        replace K_s6 := K_s6.then_ hk (fun _ h => h.elim)
        replace K_s11 := K_s11.then_ hk (fun _ h => h.elim)
        replace K_s16 := K_s16.then_ hk (fun _ h => h.elim)
        replace K_s21 := K_s21.then_ hk (fun _ h => h.elim)
        replace K_s38 := K_s38.then_ hk (fun _ h => h.elim)
        refine ⟨_, rfl, ?_⟩
        clear hE a; intro a hE
        refine q0 p7_8_1 hE (st_move rfl) ?_
        clear hE a; intro a hE
        refine p_cons (s_still p7_8_2 hE (wn_some g7_8_1 rfl rfl) rfl (st_move rfl) ?_)
        clear hE a; intro a hE
        refine p_cons (s_still p7_8_3 hE (wn_some g7_8_1 rfl rfl) rfl (st_len Try.underlying36 rfl) ?_)
        clear hE a; intro a hE
        refine p_cons (s_still p7_8_4 hE (wn_some g7_8_1 rfl rfl) rfl (st_move rfl) ?_)
        clear hE a; intro a hE
        refine p_cons (s_still p7_8_5 hE (wn_some g7_8_1 rfl rfl) rfl (st_len Try.underlying36 rfl) ?_)
        clear hE a; intro a hE
        refine p_cons (s_still p7_8_6 hE (wn_some g7_8_1 rfl rfl) rfl (st_add (z := ((encB (toL (z0.take (min z0.length 8)))).length : Int) + ((encB (toL (z1.take (min z1.length 8)))).length : Int)) rfl rfl (wr_i64 _ (by omega) (by omega))) ?_)
        clear hE a; intro a hE
        refine p_cons (s_still p7_8_7 hE (wn_some g7_8_1 rfl rfl) rfl (st_gtr (b := true) rfl rfl (decide_eq_true (by omega))) ?_)
        clear hE a; intro a hE
        refine q0 p7_8_8 hE (st_pick rfl rfl) ?_
        clear hE a; intro a hE
        refine q0 p7_8_9 hE (st_assign rfl) ?_
        clear hE a; intro a hE
        refine p_nil ?_
        refine x_norm ?_
        refine wp_ret ?_
        refine x_ret ?_
        refine ret_one (v := Value.bool true) rfl hE (.tmp rfl .nil) ?_
        exact ⟨rfl, K_0.to (Nat.le_refl _) (fun _ h => h.elim)⟩
      ·
        have hj := join_ok hX8 hY8 hEX hEY
        obtain ⟨hj0, hj1⟩ := hj.resolve_left (fun h => hEG h.1)
        refine c_reg R7_5_l ?_
        refine q0 p7_5_0 hE (st_move rfl) ?_
        clear hE a; intro a hE
        refine q0 p7_5_1 hE (st_neq (b := false) rfl rfl (by simp [hEX])) ?_
        clear hE a; intro a hE
        refine q0 p7_5_2 hE (st_move rfl) ?_
        clear hE a; intro a hE
        refine p_cons (s_still p7_5_3 hE (wn_some g7_5_2 rfl rfl) rfl (st_move rfl) ?_)
        clear hE a; intro a hE
        refine p_cons (s_still p7_5_4 hE (wn_some g7_5_2 rfl rfl) rfl (st_neq (b := false) rfl rfl (by simp [hEY])) ?_)
        clear hE a; intro a hE
        refine q0 p7_5_5 hE (st_pick rfl rfl) ?_
        clear hE a; intro a hE
        refine p_nil ?_
        refine x_norm ?_
        refine c_cond (t := false) hE rfl ?_
        refine wp_skip ?_
        refine x_norm ?_
        refine wp_seq ?_
        refine c_reg R7_7_l ?_
        refine q0 p7_7_0 hE (st_move rfl) ?_
        clear hE a; intro a hE
        refine q0 p7_7_1 hE (st_eql (b := false) rfl rfl (decide_eq_false hEG)) ?_
        clear hE a; intro a hE
        refine p_nil ?_
        refine x_norm ?_
        refine c_cond (t := false) hE rfl ?_
        refine wp_skip ?_
        refine x_norm ?_
        refine c_reg R7_9_l ?_
        refine p_cons (s_call (xs := []) (args := []) p7_9_0 hE wn_none rfl rfl Try.func34 cl34 (known_any  _) ?_)
        rintro e w40 ⟨rfl, hk⟩
        replace O_q25 := own_keep O_q25 hk (fun _ _ h => h)
        replace K_0 := K_0.then_ hk (fun _ h => h.elim)
        replace K_s6 := K_s6.then_ hk (fun _ h => h.elim)
        replace K_s11 := K_s11.then_ hk (fun _ h => h.elim)
        replace K_s16 := K_s16.then_ hk (fun _ h => h.elim)
        replace K_s21 := K_s21.then_ hk (fun _ h => h.elim)
        replace K_s38 := K_s38.then_ hk (fun _ h => h.elim)
        refine ⟨_, rfl, ?_⟩
        clear hE a; intro a hE
        refine q0 p7_9_1 hE (st_move rfl) ?_
        clear hE a; intro a hE
        refine p_cons (s_still p7_9_2 hE (wn_some g7_9_1 rfl rfl) rfl (st_move rfl) ?_)
        clear hE a; intro a hE
        refine p_cons (s_still p7_9_3 hE (wn_some g7_9_1 rfl rfl) rfl (st_eql (b := true) rfl rfl (decide_eq_true hj0)) ?_)
        clear hE a; intro a hE
        refine q0 p7_9_4 hE (st_pick rfl rfl) ?_
        clear hE a; intro a hE
        refine q0 p7_9_5 hE (st_move rfl) ?_
        clear hE a; intro a hE
        refine p_cons (s_still p7_9_6 hE (wn_some g7_9_5 rfl rfl) rfl (st_move rfl) ?_)
        clear hE a; intro a hE
        refine p_cons (s_row (xs := []) (vs := []) (cs := #[]) p7_9_7 hE (wn_some g7_9_5 rfl rfl) rfl Try.underlying36 rfl (by kernel_rfl) ?_)
        clear hE a; intro g41 w42 z43 B_g41 hk a hE
        have z_0_g41 := Nat.le_trans K_0.kept.1 z43
        have z_s6_g41 := Nat.le_trans K_s6.kept.1 z43
        have z_s11_g41 := Nat.le_trans K_s11.kept.1 z43
        have z_s16_g41 := Nat.le_trans K_s16.kept.1 z43
        have z_s21_g41 := Nat.le_trans K_s21.kept.1 z43
        have z_s38_g41 := Nat.le_trans K_s38.kept.1 z43
        have Nb_q25_g41 : ¬ OB Aq2531 g41 := fun h => by have := (own_ob O_q25 h).2; omega
        replace O_q25 := own_keep O_q25 hk (fun _ _ h => h)
        replace K_0 := K_0.then_ hk (fun _ h => h.elim)
        replace K_s6 := K_s6.then_ hk (fun _ h => h.elim)
        replace K_s11 := K_s11.then_ hk (fun _ h => h.elim)
        replace K_s16 := K_s16.then_ hk (fun _ h => h.elim)
        replace K_s21 := K_s21.then_ hk (fun _ h => h.elim)
        replace K_s38 := K_s38.then_ hk (fun _ h => h.elim)
        clear hk
        refine p_cons (s_still p7_9_8 hE (wn_some g7_9_5 rfl rfl) rfl (st_move rfl) ?_)
        clear hE a; intro a hE
        have O_q44 := own_blk9 (k := .u8) (l := []) B_g41 (show w.heap.size ≤ g41 from z_0_g41) rfl (Nat.le_of_ble_eq_true rfl)
        have Z_0_q44 : ∀ k, OB (some ⟨g41, 0, none⟩) k → (fun _ => False) k ∨ w.heap.size ≤ k := fun k h => by have h := ob_blk.1 h; subst h; exact Or.inr z_0_g41
        have Z_s6_q44 : ∀ k, OB (some ⟨g41, 0, none⟩) k → (fun _ => False) k ∨ w5.heap.size ≤ k := fun k h => by have h := ob_blk.1 h; subst h; exact Or.inr z_s6_g41
        have Z_s11_q44 : ∀ k, OB (some ⟨g41, 0, none⟩) k → (fun _ => False) k ∨ w10.heap.size ≤ k := fun k h => by have h := ob_blk.1 h; subst h; exact Or.inr z_s11_g41
        have Z_s16_q44 : ∀ k, OB (some ⟨g41, 0, none⟩) k → (fun _ => False) k ∨ w15.heap.size ≤ k := fun k h => by have h := ob_blk.1 h; subst h; exact Or.inr z_s16_g41
        have Z_s21_q44 : ∀ k, OB (some ⟨g41, 0, none⟩) k → (fun _ => False) k ∨ w20.heap.size ≤ k := fun k h => by have h := ob_blk.1 h; subst h; exact Or.inr z_s21_g41
        have Z_s38_q44 : ∀ k, OB (some ⟨g41, 0, none⟩) k → (fun _ => False) k ∨ w37.heap.size ≤ k := fun k h => by have h := ob_blk.1 h; subst h; exact Or.inr z_s38_g41
        have NN_q44_q25 : ∀ k, OB (some ⟨g41, 0, none⟩) k → ¬ OB Aq2531 k := fun k h h2 => by have h := ob_blk.1 h; subst h; exact Nb_q25_g41 h2
        have NN_q25_q44 : ∀ k, OB Aq2531 k → ¬ OB (some ⟨g41, 0, none⟩) k := fun k h h2 => NN_q44_q25 k h2 h
        refine p_cons (s_appendC (xs := []) (ys := (encB (toL (z0.take (min z0.length 8))))) p7_9_9 hE (wn_some g7_9_5 rfl rfl) rfl Try.underlying36 eD5 rfl O_q44 rfl (C_to hRf14 K_s16) (by omega) (by omega) K_0.kept.1 ?_)
        clear hE a; intro Aq4445 cq4446 w47 O_q44' hk hat a hE
        rw [Nat.zero_add] at hE O_q44'
        rw [List.nil_append] at O_q44'
        have NN_q25_q44' : ∀ k, OB Aq2531 k → ¬ OB Aq4445 k := fun k h h2 => (hat k h2).elim (NN_q25_q44 k h) (fun h3 => by have := (own_ob O_q25 h).2; omega)
        have Z_0_q44' := grow_z Z_0_q44 K_0.kept.1 hat
        have Z_s6_q44' := grow_z Z_s6_q44 K_s6.kept.1 hat
        have Z_s11_q44' := grow_z Z_s11_q44 K_s11.kept.1 hat
        have Z_s16_q44' := grow_z Z_s16_q44 K_s16.kept.1 hat
        have Z_s21_q44' := grow_z Z_s21_q44 K_s21.kept.1 hat
        have Z_s38_q44' := grow_z Z_s38_q44 K_s38.kept.1 hat
        replace O_q25 := own_keep O_q25 hk NN_q25_q44
        replace K_0 := K_0.then_ hk Z_0_q44
        replace K_s6 := K_s6.then_ hk Z_s6_q44
        replace K_s11 := K_s11.then_ hk Z_s11_q44
        replace K_s16 := K_s16.then_ hk Z_s16_q44
        replace K_s21 := K_s21.then_ hk Z_s21_q44
        replace K_s38 := K_s38.then_ hk Z_s38_q44
        replace NN_q25_q44 := NN_q25_q44'
        replace NN_q44_q25 : ∀ k, OB Aq4445 k → ¬ OB Aq2531 k := fun k h h2 => NN_q25_q44 k h2 h
        replace Z_0_q44 := Z_0_q44'
        replace Z_s6_q44 := Z_s6_q44'
        replace Z_s11_q44 := Z_s11_q44'
        replace Z_s16_q44 := Z_s16_q44'
        replace Z_s21_q44 := Z_s21_q44'
        replace Z_s38_q44 := Z_s38_q44'
        replace O_q44 : w47.ownsRow _ 5 1 (.slice Aq4445 ((encB (toL (z0.take (min z0.length 8)))).length) cq4446) ((encB (toL (z0.take (min z0.length 8)))).length) (encs (Value.int .u8) (encB (toL (z0.take (min z0.length 8))))) := O_q44'
        clear O_q44' hk hat
        refine p_cons (s_still p7_9_10 hE (wn_some g7_9_5 rfl rfl) rfl (st_move rfl) ?_)
        clear hE a; intro a hE
        refine p_cons (s_appendC (xs := (encB (toL (z0.take (min z0.length 8))))) (ys := (encB (toL (z1.take (min z1.length 8))))) p7_9_11 hE (wn_some g7_9_5 rfl rfl) rfl Try.underlying36 eD5 rfl O_q44 rfl (C_to hRf19 K_s21) (by omega) (by omega) K_0.kept.1 ?_)
        clear hE a; intro Aq4448 cq4449 w50 O_q44' hk hat a hE
        have NN_q25_q44' : ∀ k, OB Aq2531 k → ¬ OB Aq4448 k := fun k h h2 => (hat k h2).elim (NN_q25_q44 k h) (fun h3 => by have := (own_ob O_q25 h).2; omega)
        have Z_0_q44' := grow_z Z_0_q44 K_0.kept.1 hat
        have Z_s6_q44' := grow_z Z_s6_q44 K_s6.kept.1 hat
        have Z_s11_q44' := grow_z Z_s11_q44 K_s11.kept.1 hat
        have Z_s16_q44' := grow_z Z_s16_q44 K_s16.kept.1 hat
        have Z_s21_q44' := grow_z Z_s21_q44 K_s21.kept.1 hat
        have Z_s38_q44' := grow_z Z_s38_q44 K_s38.kept.1 hat
        replace O_q25 := own_keep O_q25 hk NN_q25_q44
        replace K_0 := K_0.then_ hk Z_0_q44
        replace K_s6 := K_s6.then_ hk Z_s6_q44
        replace K_s11 := K_s11.then_ hk Z_s11_q44
        replace K_s16 := K_s16.then_ hk Z_s16_q44
        replace K_s21 := K_s21.then_ hk Z_s21_q44
        replace K_s38 := K_s38.then_ hk Z_s38_q44
        replace NN_q25_q44 := NN_q25_q44'
        replace NN_q44_q25 : ∀ k, OB Aq4448 k → ¬ OB Aq2531 k := fun k h h2 => NN_q25_q44 k h2 h
        replace Z_0_q44 := Z_0_q44'
        replace Z_s6_q44 := Z_s6_q44'
        replace Z_s11_q44 := Z_s11_q44'
        replace Z_s16_q44 := Z_s16_q44'
        replace Z_s21_q44 := Z_s21_q44'
        replace Z_s38_q44 := Z_s38_q44'
        replace O_q44 : w50.ownsRow _ 5 1 (.slice Aq4448 ((encB (toL (z0.take (min z0.length 8)))).length + (encB (toL (z1.take (min z1.length 8)))).length) cq4449) ((encB (toL (z0.take (min z0.length 8)))).length + (encB (toL (z1.take (min z1.length 8)))).length) (encs (Value.int .u8) ((encB (toL (z0.take (min z0.length 8)))) ++ (encB (toL (z1.take (min z1.length 8)))))) := O_q44'
        clear O_q44' hk hat
        have hs9 : (encB ((toL (z0.take (min z0.length 8))) ++ (toL (z1.take (min z1.length 8))))) = ((encB (toL (z0.take (min z0.length 8)))) ++ (encB (toL (z1.take (min z1.length 8))))) := by rw [hj1]; try simp
        refine p_cons (s_call (xs := [Operand.tmp 72, Operand.tmp 77]) (args := [Value.slice A34 ((encB ((toL (z0.take (min z0.length 8))) ++ (toL (z1.take (min z1.length 8))))).length) c35, Value.slice Aq4448 ((encB (toL (z0.take (min z0.length 8)))).length + (encB (toL (z1.take (min z1.length 8)))).length) cq4449]) p7_9_12 hE (wn_some g7_9_5 rfl rfl) rfl rfl Try.func21 cl21 (same_n A34 Aq4448 c35 cq4449 (encB ((toL (z0.take (min z0.length 8))) ++ (toL (z1.take (min z1.length 8))))) ((encB (toL (z0.take (min z0.length 8)))) ++ (encB (toL (z1.take (min z1.length 8))))) ((encB (toL (z0.take (min z0.length 8)))).length + (encB (toL (z1.take (min z1.length 8)))).length) (by simp) true (decide_eq_true hs9) _ (C_to hRf36 K_s38) hcapf36 (own_told O_q44) (own_caps O_q44).1 (by have := encB_bd ((toL (z0.take (min z0.length 8))) ++ (toL (z1.take (min z1.length 8)))) (.inr trivial); omega)) ?_)
        rintro e w51 ⟨rfl, hn⟩
        have hk := kp_n hn (fun _ => False)
        replace O_q25 := own_keep O_q25 hk (fun _ _ h => h)
        replace O_q44 := own_keep O_q44 hk (fun _ _ h => h)
        replace K_0 := K_0.then_ hk (fun _ h => h.elim)
        replace K_s6 := K_s6.then_ hk (fun _ h => h.elim)
        replace K_s11 := K_s11.then_ hk (fun _ h => h.elim)
        replace K_s16 := K_s16.then_ hk (fun _ h => h.elim)
        replace K_s21 := K_s21.then_ hk (fun _ h => h.elim)
        replace K_s38 := K_s38.then_ hk (fun _ h => h.elim)
        refine ⟨_, rfl, ?_⟩
        clear hE a; intro a hE
        refine q0 p7_9_13 hE (st_pick rfl rfl) ?_
        clear hE a; intro a hE
        refine q0 p7_9_14 hE (st_assign rfl) ?_
        clear hE a; intro a hE
        refine p_nil ?_
        refine x_norm ?_
        refine wp_ret ?_
        refine ret_one (v := Value.bool true) rfl hE (.tmp rfl .nil) ?_
        exact ⟨rfl, K_0.to (Nat.le_refl _) (fun _ h => h.elim)⟩
    ·
      have hjb := join_bad hX8 hY8 (fun h => hEY h.2)
      refine c_reg R7_5_l ?_
      refine q0 p7_5_0 hE (st_move rfl) ?_
      clear hE a; intro a hE
      refine q0 p7_5_1 hE (st_neq (b := false) rfl rfl (by simp [hEX])) ?_
      clear hE a; intro a hE
      refine q0 p7_5_2 hE (st_move rfl) ?_
      clear hE a; intro a hE
      refine p_cons (s_still p7_5_3 hE (wn_some g7_5_2 rfl rfl) rfl (st_move rfl) ?_)
      clear hE a; intro a hE
      refine p_cons (s_still p7_5_4 hE (wn_some g7_5_2 rfl rfl) rfl (st_neq (b := true) rfl rfl (by simp [hEY])) ?_)
      clear hE a; intro a hE
      refine q0 p7_5_5 hE (st_pick rfl rfl) ?_
      clear hE a; intro a hE
      refine p_nil ?_
      refine x_norm ?_
      refine c_cond (t := true) hE rfl ?_
      refine c_reg R7_6_l ?_
      refine p_cons (s_call (xs := []) (args := []) p7_6_0 hE wn_none rfl rfl Try.func34 cl34 (known_any  _) ?_)
      rintro e w52 ⟨rfl, hk⟩
      replace O_q25 := own_keep O_q25 hk (fun _ _ h => h)
      replace K_0 := K_0.then_ hk (fun _ h => h.elim)
      replace K_s6 := K_s6.then_ hk (fun _ h => h.elim)
      replace K_s11 := K_s11.then_ hk (fun _ h => h.elim)
      replace K_s16 := K_s16.then_ hk (fun _ h => h.elim)
      replace K_s21 := K_s21.then_ hk (fun _ h => h.elim)
      replace K_s38 := K_s38.then_ hk (fun _ h => h.elim)
      refine ⟨_, rfl, ?_⟩
      clear hE a; intro a hE
      refine q0 p7_6_1 hE (st_move rfl) ?_
      clear hE a; intro a hE
      refine p_cons (s_still p7_6_2 hE (wn_some g7_6_1 rfl rfl) rfl (st_move rfl) ?_)
      clear hE a; intro a hE
      refine p_cons (s_still p7_6_3 hE (wn_some g7_6_1 rfl rfl) rfl (st_neq (b := true) rfl rfl (by simp [hjb])) ?_)
      clear hE a; intro a hE
      refine q0 p7_6_4 hE (st_pick rfl rfl) ?_
      clear hE a; intro a hE
      refine q0 p7_6_5 hE (st_assign rfl) ?_
      clear hE a; intro a hE
      refine p_nil ?_
      refine x_norm ?_
      refine wp_ret ?_
      refine x_ret ?_
      refine ret_one (v := Value.bool true) rfl hE (.tmp rfl .nil) ?_
      exact ⟨rfl, K_0.to (Nat.le_refl _) (fun _ h => h.elim)⟩
  ·
    have hjb := join_bad hX8 hY8 (fun h => hEX h.1)
    refine c_reg R7_5_l ?_
    refine q0 p7_5_0 hE (st_move rfl) ?_
    clear hE a; intro a hE
    refine q0 p7_5_1 hE (st_neq (b := true) rfl rfl (by simp [hEX])) ?_
    clear hE a; intro a hE
    refine q0 p7_5_2 hE (st_move rfl) ?_
    clear hE a; intro a hE
    refine p_cons (s_skip p7_5_3 hE (wn_some g7_5_2 rfl rfl) rfl ?_)
    clear hE a; intro a hE
    refine p_cons (s_skip p7_5_4 hE (wn_some g7_5_2 rfl rfl) rfl ?_)
    clear hE a; intro a hE
    refine q0 p7_5_5 hE (st_pick rfl rfl) ?_
    clear hE a; intro a hE
    refine p_nil ?_
    refine x_norm ?_
    refine c_cond (t := true) hE rfl ?_
    refine c_reg R7_6_l ?_
    refine p_cons (s_call (xs := []) (args := []) p7_6_0 hE wn_none rfl rfl Try.func34 cl34 (known_any  _) ?_)
    rintro e w53 ⟨rfl, hk⟩
    replace O_q25 := own_keep O_q25 hk (fun _ _ h => h)
    replace K_0 := K_0.then_ hk (fun _ h => h.elim)
    replace K_s6 := K_s6.then_ hk (fun _ h => h.elim)
    replace K_s11 := K_s11.then_ hk (fun _ h => h.elim)
    replace K_s16 := K_s16.then_ hk (fun _ h => h.elim)
    replace K_s21 := K_s21.then_ hk (fun _ h => h.elim)
    replace K_s38 := K_s38.then_ hk (fun _ h => h.elim)
    refine ⟨_, rfl, ?_⟩
    clear hE a; intro a hE
    refine q0 p7_6_1 hE (st_move rfl) ?_
    clear hE a; intro a hE
    refine p_cons (s_still p7_6_2 hE (wn_some g7_6_1 rfl rfl) rfl (st_move rfl) ?_)
    clear hE a; intro a hE
    refine p_cons (s_still p7_6_3 hE (wn_some g7_6_1 rfl rfl) rfl (st_neq (b := true) rfl rfl (by simp [hjb])) ?_)
    clear hE a; intro a hE
    refine q0 p7_6_4 hE (st_pick rfl rfl) ?_
    clear hE a; intro a hE
    refine q0 p7_6_5 hE (st_assign rfl) ?_
    clear hE a; intro a hE
    refine p_nil ?_
    refine x_norm ?_
    refine wp_ret ?_
    refine x_ret ?_
    refine ret_one (v := Value.bool true) rfl hE (.tmp rfl .nil) ?_
    exact ⟨rfl, K_0.to (Nat.le_refl _) (fun _ h => h.elim)⟩
end Go.Proofs.Ytndiddfleidnaaa.OJ
