/- The law OptionFinds, walked. -/
import Derived.Test.YtndiddfleidnaaaOfi
set_option maxRecDepth 100000
set_option linter.unusedVariables false
set_option linter.unusedSimpArgs false
namespace Go.Proofs.Ytndiddfleidnaaa.OF
open Go.RowKit Go.Proofs.YtndiddfleidnaaaW.PrintWords Go.Proofs.Ytndiddfleidnaaa.Ds Go.Proofs.Ytndiddfleidnaaa.Op Go.Proofs.Ytndiddfleidnaaa.Oc Go.Proofs.Ytndiddfleidnaaa.Or Go.Proofs.Ytndiddfleidnaaa.Ow Go.Proofs.Ytndiddfleidnaaa.Ob Go.Proofs.Ytndiddfleidnaaa.Os Go.Proofs.Ytndiddfleidnaaa.Oe Go.Proofs.Ytndiddfleidnaaa.Of
open Go.Proofs.Ytndiddfleidnaaa.Pk (Kp fitsF spanF putF digF fits_any put_ok put_bd C_take)
theorem to_n (A : Option Addr) (c n : Nat) (ls : List OV) (hn : n = ls.length) (w : World) (hF : Kd.C dO w A ls.length ls) (hm : ls.length ≤ c) (hmx : ls.length ≤ 1954687338211) : Calls Try.prog 32 #[.slice A n c] w fun e w' => ∃ A' c', e = .returned (.slice A' (toL ls).length c') ∧ (toL ls).length ≤ c' ∧ (∀ W', Kp w' W' (fun _ => False) → Kd.C dO W' A' (toL ls).length (toL ls)) ∧ Kp w w' (fun _ => False) := by
  subst hn; exact to_any A c ls w hF hm hmx
theorem toL_len (ls : List OV) : (toL ls).length ≤ 20 := by unfold toL; rw [List.length_map, List.length_take]; omega
theorem toL_le (ls : List OV) : (toL ls).length ≤ ls.length := by unfold toL; rw [List.length_map, List.length_take]; omega
theorem find_n (A B : Option Addr) (c cb n : Nat) (xs : List OV) (ks : List Int) (hn : ks.length = n) (hx : ∀ x ∈ xs, okO x) (w : World) (hF : Kd.C dO w A xs.length xs) (hG : ∀ W', Kp w W' (fun _ => False) → Kd.C (Kd.int .i64) W' B n ks) (hmx : xs.length ≤ 1000000) (hmk : n ≤ 1000000000000) : Calls Try.prog 35 #[.slice A xs.length c, .slice B n cb] w fun e w' => ∃ (y : OV) (v : Int) (A' T' : Option Addr) (q' c' : Nat), e = .returned (.tuple #[Value.agg (([Value.int .i64 y.1, Value.slice A' y.2.1.length q'] ++ b16 (adr y) ++ [Value.slice T' y.2.2.2.length c'])).toArray, .bool (decide (0 ≤ v))]) ∧ AtP ks xs xs.length v ∧ (0 ≤ v → y = xs.getD v.toNat zO) ∧ y.2.1.length ≤ q' ∧ y.2.2.2.length ≤ c' ∧ (∀ W', Kp w' W' (fun _ => False) → Kd.C (Kd.int .i64) W' A' y.2.1.length y.2.1) ∧ (∀ W', Kp w' W' (fun _ => False) → Kd.C (Kd.int .u8) W' T' y.2.2.2.length y.2.2.2) ∧ Kp w w' (fun _ => False) := by
  subst hn; exact find_any A B c cb xs ks hx w hF hG hmx hmk
theorem with_n (A B : Option Addr) (c cb n : Nat) (xs : List OV) (ks : List Int) (hn : ks.length = n) (hx : ∀ x ∈ xs, okO x) (w : World) (hF : Kd.C dO w A xs.length xs) (hG : ∀ W', Kp w W' (fun _ => False) → Kd.C (Kd.int .i64) W' B n ks) (hmx : xs.length ≤ 1000000) (hmk : n ≤ 1000000000000) : Calls Try.prog 36 #[.slice A xs.length c, .slice B n cb] w fun e w' => ∃ A' c', e = .returned (.slice A' (without ks xs).length c') ∧ (without ks xs).length ≤ c' ∧ (∀ W', Kp w' W' (fun _ => False) → Kd.C dO W' A' (without ks xs).length (without ks xs)) ∧ Kp w w' (fun _ => False) := by
  subst hn; exact without_any A B c cb xs ks hx w hF hG hmx hmk
theorem of_n (A : Option Addr) (c : Nat) (ls : List OV) (he : ls.map ofV = ls) (w : World) (hF : Kd.C dO w A ls.length ls) (hm : ls.length ≤ c) (hmx : ls.length ≤ 1954687338211) : Calls Try.prog 39 #[.slice A ls.length c] w fun e w' => ∃ A' c', e = .returned (.slice A' ls.length c') ∧ ls.length ≤ c' ∧ (∀ W', Kp w' W' (fun _ => False) → Kd.C dO W' A' ls.length ls) ∧ Kp w w' (fun _ => False) := by
  have := ofl_any A c ls w hF hm hmx
  rw [he] at this
  exact this
theorem opt_y {w : World} (y : OV) {A T : Option Addr} {nn n' tn t : Nat} (e1 : nn = y.2.1.length) (e2 : tn = y.2.2.2.length) (h1 : y.2.1.length ≤ n') (h2 : y.2.2.2.length ≤ t) (hC : Kd.C (Kd.int .i64) w A y.2.1.length y.2.1) (hD : Kd.C (Kd.int .u8) w T y.2.2.2.length y.2.2.2) : Kd.K dO w (cpV y) ([.int .i64 y.1, .slice A nn n'] ++ b16 (adr y) ++ [.slice T tn t]) := opt_mk y.1 y.2.1 (adr y) y.2.2.2 e1 e2 h1 h2 hC hD
theorem R8_0_l : List.range (regOf Try.f8 0).size = [0] := by kernel_rfl
theorem R8_1_l : List.range (regOf Try.f8 1).size = [0, 1, 2, 3, 4, 5] := by kernel_rfl
theorem R8_2_l : List.range (regOf Try.f8 2).size = [0, 1, 2, 3, 4, 5] := by kernel_rfl
theorem R8_3_l : List.range (regOf Try.f8 3).size = [0, 1, 2, 3, 4, 5, 6, 7, 8] := by kernel_rfl
theorem R8_4_l : List.range (regOf Try.f8 4).size = [0, 1, 2, 3] := by kernel_rfl
theorem R8_5_l : List.range (regOf Try.f8 5).size = [0, 1] := by kernel_rfl
theorem R8_6_l : List.range (regOf Try.f8 6).size = [0] := by kernel_rfl
theorem R8_7_l : List.range (regOf Try.f8 7).size = [0, 1, 2, 3] := by kernel_rfl
theorem R8_9_l : List.range (regOf Try.f8 9).size = [0] := by kernel_rfl
theorem R8_10_l : List.range (regOf Try.f8 10).size = [0] := by kernel_rfl
theorem R8_11_l : List.range (regOf Try.f8 11).size = [0, 1, 2, 3] := by kernel_rfl
theorem R8_13_l : List.range (regOf Try.f8 13).size = [0, 1, 2, 3, 4, 5, 6, 7, 8, 9, 10, 11, 12, 13] := by kernel_rfl
theorem R8_12_l : List.range (regOf Try.f8 12).size = [0, 1, 2] := by kernel_rfl
theorem R8_14_l : List.range (regOf Try.f8 14).size = [0] := by kernel_rfl
theorem R8_15_l : List.range (regOf Try.f8 15).size = [0, 1] := by kernel_rfl
theorem R8_16_l : List.range (regOf Try.f8 16).size = [0, 1] := by kernel_rfl
theorem R8_17_l : List.range (regOf Try.f8 17).size = [0, 1, 2, 3, 4, 5, 6, 7, 8, 9, 10, 11, 12, 13, 14, 15, 16, 17] := by kernel_rfl
theorem R8_18_l : List.range (regOf Try.f8 18).size = [0] := by kernel_rfl
theorem R8_19_l : List.range (regOf Try.f8 19).size = [0, 1, 2] := by kernel_rfl
theorem R8_8_l : List.range (regOf Try.f8 8).size = [0, 1, 2] := by kernel_rfl
theorem R8_20_l : List.range (regOf Try.f8 20).size = [0, 1, 2, 3, 4, 5, 6, 7, 8, 9, 10, 11, 12, 13, 14, 15, 16, 17, 18, 19, 20, 21, 22, 23, 24] := by kernel_rfl
theorem R8_21_l : List.range (regOf Try.f8 21).size = [0] := by kernel_rfl
theorem R8_22_l : List.range (regOf Try.f8 22).size = [0, 1, 2, 3, 4, 5, 6, 7, 8, 9, 10, 11, 12, 13, 14, 15, 16, 17] := by kernel_rfl
theorem body8 : Try.f8.body = some (.seq (.region 0 (regOf Try.f8 0) false) (.seq (.region 1 (regOf Try.f8 1) false) (.seq (.region 2 (regOf Try.f8 2) false) (.seq (.region 3 (regOf Try.f8 3) false) (.seq (.region 4 (regOf Try.f8 4) false) (.seq (.region 5 (regOf Try.f8 5) false) (.seq (.seq (.region 6 (regOf Try.f8 6) false) (.block 0 (.loop (.seq (.seq (.region 7 (regOf Try.f8 7) false) (.cond (Operand.tmp 38) (.skip) (.exit 0))) (.seq (.block 1 (.seq (.region 9 (regOf Try.f8 9) false) (.seq (.seq (.region 10 (regOf Try.f8 10) false) (.block 2 (.loop (.seq (.seq (.region 11 (regOf Try.f8 11) false) (.cond (Operand.tmp 44) (.skip) (.exit 2))) (.seq (.block 3 (.region 13 (regOf Try.f8 13) true)) (.region 12 (regOf Try.f8 12) false)))))) (.seq (.seq (.region 14 (regOf Try.f8 14) false) (.cond (Operand.tmp 60) (.seq (.seq (.region 15 (regOf Try.f8 15) false) (.cond (Operand.tmp 62) (.region 16 (regOf Try.f8 16) false) (.skip))) (.exit 1)) (.skip))) (.seq (.seq (.region 17 (regOf Try.f8 17) true) (.cond (Operand.tmp 81) (.seq (.region 18 (regOf Try.f8 18) false) (.ret)) (.skip))) (.region 19 (regOf Try.f8 19) false)))))) (.region 8 (regOf Try.f8 8) false)))))) (.seq (.seq (.region 20 (regOf Try.f8 20) true) (.cond (Operand.tmp 108) (.seq (.region 21 (regOf Try.f8 21) false) (.ret)) (.skip))) (.seq (.region 22 (regOf Try.f8 22) false) (.ret)))))))))) := by kernel_rfl
theorem p8_0_0 : pj (regOf Try.f8 0) 0 = some (some 6, .assign (.const (.bool false)), 4, none) := by kernel_rfl
theorem p8_1_0 : pj (regOf Try.f8 1) 0 = some (some 17, .move (.tmp 0), 57, none) := by kernel_rfl
theorem p8_1_1 : pj (regOf Try.f8 1) 1 = some (some 18, .call { callee := .value (.func 32), args := #[.tmp 17], argTypes := #[57] }, 58, none) := by kernel_rfl
theorem cl32 : callable Try.f32 = true := by kernel_rfl
theorem p8_1_2 : pj (regOf Try.f8 1) 2 = some (some 19, .move (.tmp 1), 57, none) := by kernel_rfl
theorem p8_1_3 : pj (regOf Try.f8 1) 3 = some (some 20, .call { callee := .value (.func 32), args := #[.tmp 19], argTypes := #[57] }, 58, none) := by kernel_rfl
theorem p8_1_4 : pj (regOf Try.f8 1) 4 = some (some 7, .assign (.tmp 18), 58, none) := by kernel_rfl
theorem p8_1_5 : pj (regOf Try.f8 1) 5 = some (some 8, .assign (.tmp 20), 58, none) := by kernel_rfl
theorem p8_2_0 : pj (regOf Try.f8 2) 0 = some (some 21, .move (.tmp 2), 62, none) := by kernel_rfl
theorem p8_2_1 : pj (regOf Try.f8 2) 1 = some (some 22, .move (.tmp 2), 62, none) := by kernel_rfl
theorem p8_2_2 : pj (regOf Try.f8 2) 2 = some (some 23, .call { callee := .builtin .len, args := #[.tmp 22], argTypes := #[62] }, 3, none) := by kernel_rfl
theorem p8_2_3 : pj (regOf Try.f8 2) 3 = some (some 24, .call { callee := .builtin .min, args := #[.tmp 23, .const (.int .i64 10)], argTypes := #[3, 3] }, 3, none) := by kernel_rfl
theorem p8_2_4 : pj (regOf Try.f8 2) 4 = some (some 25, .slice 62 (.tmp 21) none (some (.tmp 24)) none, 62, none) := by kernel_rfl
theorem tS3 : (Try.prog.info? 3).map (·.size) = some 1 := by kernel_rfl
theorem p8_2_5 : pj (regOf Try.f8 2) 5 = some (some 2, .assign (.tmp 25), 62, none) := by kernel_rfl
theorem p8_3_0 : pj (regOf Try.f8 3) 0 = some (some 27, .move (.tmp 7), 58, none) := by kernel_rfl
theorem p8_3_1 : pj (regOf Try.f8 3) 1 = some (some 28, .move (.tmp 2), 62, none) := by kernel_rfl
theorem p8_3_2 : pj (regOf Try.f8 3) 2 = some (some 29, .call { callee := .value (.func 35), args := #[.tmp 27, .tmp 28], argTypes := #[58, 62] }, 65, none) := by kernel_rfl
theorem cl35 : callable Try.f35 = true := by kernel_rfl
theorem p8_3_3 : pj (regOf Try.f8 3) 3 = some (some 26, .move (.tmp 29), 65, none) := by kernel_rfl
theorem p8_3_4 : pj (regOf Try.f8 3) 4 = some (some 30, .extract (.tmp 26) 0, 64, none) := by kernel_rfl
theorem p8_3_5 : pj (regOf Try.f8 3) 5 = some (some 31, .extract (.tmp 26) 1, 4, none) := by kernel_rfl
theorem p8_3_6 : pj (regOf Try.f8 3) 6 = some (some 9, .alloc 64, 0, none) := by kernel_rfl
theorem tZ64 : (Try.prog.info? 64).bind (·.zero) = some (Value.agg (([Value.int .i64 0, Value.slice none 0 0] ++ b16 (fun _ => 0) ++ [Value.slice none 0 0])).toArray) := by kernel_rfl
theorem p8_3_7 : pj (regOf Try.f8 3) 7 = some (none, .store 64 (.tmp 9) (.tmp 30), 0, none) := by kernel_rfl
theorem tS64 : (Try.prog.info? 64).map (·.size) = some 19 := by kernel_rfl
theorem p8_3_8 : pj (regOf Try.f8 3) 8 = some (some 10, .assign (.tmp 31), 4, none) := by kernel_rfl
theorem p8_4_0 : pj (regOf Try.f8 4) 0 = some (some 32, .move (.tmp 7), 58, none) := by kernel_rfl
theorem p8_4_1 : pj (regOf Try.f8 4) 1 = some (some 33, .move (.tmp 2), 62, none) := by kernel_rfl
theorem p8_4_2 : pj (regOf Try.f8 4) 2 = some (some 34, .call { callee := .value (.func 36), args := #[.tmp 32, .tmp 33], argTypes := #[58, 62] }, 58, none) := by kernel_rfl
theorem cl36 : callable Try.f36 = true := by kernel_rfl
theorem p8_4_3 : pj (regOf Try.f8 4) 3 = some (some 11, .assign (.tmp 34), 58, none) := by kernel_rfl
theorem p8_5_0 : pj (regOf Try.f8 5) 0 = some (some 12, .assign (.const (.int .i64 (-1))), 3, none) := by kernel_rfl
theorem p8_5_1 : pj (regOf Try.f8 5) 1 = some (some 13, .assign (.const (.int .i64 0)), 3, none) := by kernel_rfl
theorem p8_6_0 : pj (regOf Try.f8 6) 0 = some (some 14, .assign (.const (.int .i64 0)), 3, none) := by kernel_rfl
theorem p8_7_0 : pj (regOf Try.f8 7) 0 = some (some 35, .move (.tmp 14), 3, none) := by kernel_rfl
theorem p8_7_1 : pj (regOf Try.f8 7) 1 = some (some 36, .move (.tmp 7), 58, none) := by kernel_rfl
theorem p8_7_2 : pj (regOf Try.f8 7) 2 = some (some 37, .call { callee := .builtin .len, args := #[.tmp 36], argTypes := #[58] }, 3, none) := by kernel_rfl
theorem p8_7_3 : pj (regOf Try.f8 7) 3 = some (some 38, .binOp .lss 3 (.tmp 35) (.tmp 37) 3, 4, none) := by kernel_rfl
theorem p8_9_0 : pj (regOf Try.f8 9) 0 = some (some 15, .assign (.const (.bool false)), 4, none) := by kernel_rfl
theorem p8_10_0 : pj (regOf Try.f8 10) 0 = some (some 16, .assign (.const (.int .i64 0)), 3, none) := by kernel_rfl
theorem p8_11_0 : pj (regOf Try.f8 11) 0 = some (some 41, .move (.tmp 16), 3, none) := by kernel_rfl
theorem p8_11_1 : pj (regOf Try.f8 11) 1 = some (some 42, .move (.tmp 2), 62, none) := by kernel_rfl
theorem p8_11_2 : pj (regOf Try.f8 11) 2 = some (some 43, .call { callee := .builtin .len, args := #[.tmp 42], argTypes := #[62] }, 3, none) := by kernel_rfl
theorem p8_11_3 : pj (regOf Try.f8 11) 3 = some (some 44, .binOp .lss 3 (.tmp 41) (.tmp 43) 3, 4, none) := by kernel_rfl
theorem ns8_13 : Region.noSelect (regOf Try.f8 13) = true := by kernel_rfl
theorem p8_13_0 : pj (regOf Try.f8 13) 0 = some (some 47, .move (.tmp 15), 4, none) := by kernel_rfl
theorem p8_13_1 : pj (regOf Try.f8 13) 1 = some (some 48, .move (.tmp 47), 4, none) := by kernel_rfl
theorem g8_13_1 : dstOf (regOf Try.f8 13) 1 = some 48 := by kernel_rfl
theorem p8_13_2 : pj (regOf Try.f8 13) 2 = some (some 49, .move (.tmp 2), 62, some (1, false)) := by kernel_rfl
theorem p8_13_3 : pj (regOf Try.f8 13) 3 = some (some 50, .move (.tmp 16), 3, some (1, false)) := by kernel_rfl
theorem p8_13_4 : pj (regOf Try.f8 13) 4 = some (some 51, .indexAddr 62 (.tmp 49) (.tmp 50), 0, some (1, false)) := by kernel_rfl
theorem p8_13_5 : pj (regOf Try.f8 13) 5 = some (some 52, .load 3 (.tmp 51), 3, some (1, false)) := by kernel_rfl
theorem p8_13_6 : pj (regOf Try.f8 13) 6 = some (some 53, .move (.tmp 7), 58, some (1, false)) := by kernel_rfl
theorem p8_13_7 : pj (regOf Try.f8 13) 7 = some (some 54, .move (.tmp 14), 3, some (1, false)) := by kernel_rfl
theorem p8_13_8 : pj (regOf Try.f8 13) 8 = some (some 55, .indexAddr 58 (.tmp 53) (.tmp 54), 0, some (1, false)) := by kernel_rfl
theorem p8_13_9 : pj (regOf Try.f8 13) 9 = some (some 56, .fieldAddr 64 (.tmp 55) 0, 0, some (1, false)) := by kernel_rfl
theorem p8_13_10 : pj (regOf Try.f8 13) 10 = some (some 57, .load 3 (.tmp 56), 3, some (1, false)) := by kernel_rfl
theorem p8_13_11 : pj (regOf Try.f8 13) 11 = some (some 58, .binOp .eql 3 (.tmp 52) (.tmp 57) 3, 4, some (1, false)) := by kernel_rfl
theorem p8_13_12 : pj (regOf Try.f8 13) 12 = some (some 59, .pick (.tmp 48) (.const (.bool true)) (.tmp 58), 4, none) := by kernel_rfl
theorem p8_13_13 : pj (regOf Try.f8 13) 13 = some (some 15, .assign (.tmp 59), 4, none) := by kernel_rfl
theorem p8_12_0 : pj (regOf Try.f8 12) 0 = some (some 45, .move (.tmp 16), 3, none) := by kernel_rfl
theorem p8_12_1 : pj (regOf Try.f8 12) 1 = some (some 46, .binOp .add 3 (.tmp 45) (.const (.int .i64 1)) 3, 3, none) := by kernel_rfl
theorem p8_12_2 : pj (regOf Try.f8 12) 2 = some (some 16, .assign (.tmp 46), 3, none) := by kernel_rfl
theorem tA3 : (Try.prog.underlying 3).map aggD = some false := by kernel_rfl
theorem p8_14_0 : pj (regOf Try.f8 14) 0 = some (some 60, .move (.tmp 15), 4, none) := by kernel_rfl
theorem p8_15_0 : pj (regOf Try.f8 15) 0 = some (some 61, .move (.tmp 12), 3, none) := by kernel_rfl
theorem p8_15_1 : pj (regOf Try.f8 15) 1 = some (some 62, .binOp .lss 3 (.tmp 61) (.const (.int .i64 0)) 3, 4, none) := by kernel_rfl
theorem p8_16_0 : pj (regOf Try.f8 16) 0 = some (some 63, .move (.tmp 14), 3, none) := by kernel_rfl
theorem p8_16_1 : pj (regOf Try.f8 16) 1 = some (some 12, .assign (.tmp 63), 3, none) := by kernel_rfl
theorem p8_8_0 : pj (regOf Try.f8 8) 0 = some (some 39, .move (.tmp 14), 3, none) := by kernel_rfl
theorem p8_8_1 : pj (regOf Try.f8 8) 1 = some (some 40, .binOp .add 3 (.tmp 39) (.const (.int .i64 1)) 3, 3, none) := by kernel_rfl
theorem p8_8_2 : pj (regOf Try.f8 8) 2 = some (some 14, .assign (.tmp 40), 3, none) := by kernel_rfl
theorem ns8_17 : Region.noSelect (regOf Try.f8 17) = true := by kernel_rfl
theorem p8_17_0 : pj (regOf Try.f8 17) 0 = some (some 64, .move (.tmp 13), 3, none) := by kernel_rfl
theorem p8_17_1 : pj (regOf Try.f8 17) 1 = some (some 65, .move (.tmp 11), 58, none) := by kernel_rfl
theorem p8_17_2 : pj (regOf Try.f8 17) 2 = some (some 66, .call { callee := .builtin .len, args := #[.tmp 65], argTypes := #[58] }, 3, none) := by kernel_rfl
theorem p8_17_3 : pj (regOf Try.f8 17) 3 = some (some 67, .binOp .geq 3 (.tmp 64) (.tmp 66) 3, 4, none) := by kernel_rfl
theorem p8_17_4 : pj (regOf Try.f8 17) 4 = some (some 68, .move (.tmp 67), 4, none) := by kernel_rfl
theorem g8_17_4 : dstOf (regOf Try.f8 17) 4 = some 68 := by kernel_rfl
theorem p8_17_5 : pj (regOf Try.f8 17) 5 = some (some 69, .move (.tmp 11), 58, some (4, false)) := by kernel_rfl
theorem p8_17_6 : pj (regOf Try.f8 17) 6 = some (some 70, .move (.tmp 13), 3, some (4, false)) := by kernel_rfl
theorem p8_17_7 : pj (regOf Try.f8 17) 7 = some (some 71, .move (.tmp 13), 3, some (4, false)) := by kernel_rfl
theorem p8_17_8 : pj (regOf Try.f8 17) 8 = some (some 72, .binOp .add 3 (.tmp 71) (.const (.int .i64 1)) 3, 3, some (4, false)) := by kernel_rfl
theorem p8_17_9 : pj (regOf Try.f8 17) 9 = some (some 73, .slice 58 (.tmp 69) (some (.tmp 70)) (some (.tmp 72)) none, 58, some (4, false)) := by kernel_rfl
theorem p8_17_10 : pj (regOf Try.f8 17) 10 = some (some 74, .move (.tmp 7), 58, some (4, false)) := by kernel_rfl
theorem p8_17_11 : pj (regOf Try.f8 17) 11 = some (some 75, .move (.tmp 14), 3, some (4, false)) := by kernel_rfl
theorem p8_17_12 : pj (regOf Try.f8 17) 12 = some (some 76, .move (.tmp 14), 3, some (4, false)) := by kernel_rfl
theorem p8_17_13 : pj (regOf Try.f8 17) 13 = some (some 77, .binOp .add 3 (.tmp 76) (.const (.int .i64 1)) 3, 3, some (4, false)) := by kernel_rfl
theorem p8_17_14 : pj (regOf Try.f8 17) 14 = some (some 78, .slice 58 (.tmp 74) (some (.tmp 75)) (some (.tmp 77)) none, 58, some (4, false)) := by kernel_rfl
theorem p8_17_15 : pj (regOf Try.f8 17) 15 = some (some 79, .call { callee := .value (.func 37), args := #[.tmp 73, .tmp 78], argTypes := #[58, 58] }, 4, some (4, false)) := by kernel_rfl
theorem cl37 : callable Try.f37 = true := by kernel_rfl
theorem p8_17_16 : pj (regOf Try.f8 17) 16 = some (some 80, .unOp .not 4 (.tmp 79), 4, some (4, false)) := by kernel_rfl
theorem p8_17_17 : pj (regOf Try.f8 17) 17 = some (some 81, .pick (.tmp 68) (.const (.bool true)) (.tmp 80), 4, none) := by kernel_rfl
theorem p8_19_0 : pj (regOf Try.f8 19) 0 = some (some 82, .move (.tmp 13), 3, none) := by kernel_rfl
theorem p8_19_1 : pj (regOf Try.f8 19) 1 = some (some 83, .binOp .add 3 (.tmp 82) (.const (.int .i64 1)) 3, 3, none) := by kernel_rfl
theorem p8_19_2 : pj (regOf Try.f8 19) 2 = some (some 13, .assign (.tmp 83), 3, none) := by kernel_rfl
theorem ns8_20 : Region.noSelect (regOf Try.f8 20) = true := by kernel_rfl
theorem p8_20_0 : pj (regOf Try.f8 20) 0 = some (some 84, .move (.tmp 13), 3, none) := by kernel_rfl
theorem p8_20_1 : pj (regOf Try.f8 20) 1 = some (some 85, .move (.tmp 11), 58, none) := by kernel_rfl
theorem p8_20_2 : pj (regOf Try.f8 20) 2 = some (some 86, .call { callee := .builtin .len, args := #[.tmp 85], argTypes := #[58] }, 3, none) := by kernel_rfl
theorem p8_20_3 : pj (regOf Try.f8 20) 3 = some (some 87, .binOp .neq 3 (.tmp 84) (.tmp 86) 3, 4, none) := by kernel_rfl
theorem p8_20_4 : pj (regOf Try.f8 20) 4 = some (some 88, .move (.tmp 87), 4, none) := by kernel_rfl
theorem g8_20_4 : dstOf (regOf Try.f8 20) 4 = some 88 := by kernel_rfl
theorem p8_20_5 : pj (regOf Try.f8 20) 5 = some (some 89, .move (.tmp 10), 4, some (4, false)) := by kernel_rfl
theorem p8_20_6 : pj (regOf Try.f8 20) 6 = some (some 90, .move (.tmp 12), 3, some (4, false)) := by kernel_rfl
theorem p8_20_7 : pj (regOf Try.f8 20) 7 = some (some 91, .binOp .geq 3 (.tmp 90) (.const (.int .i64 0)) 3, 4, some (4, false)) := by kernel_rfl
theorem p8_20_8 : pj (regOf Try.f8 20) 8 = some (some 92, .binOp .neq 4 (.tmp 89) (.tmp 91) 4, 4, some (4, false)) := by kernel_rfl
theorem p8_20_9 : pj (regOf Try.f8 20) 9 = some (some 93, .pick (.tmp 88) (.const (.bool true)) (.tmp 92), 4, none) := by kernel_rfl
theorem p8_20_10 : pj (regOf Try.f8 20) 10 = some (some 94, .move (.tmp 93), 4, none) := by kernel_rfl
theorem g8_20_10 : dstOf (regOf Try.f8 20) 10 = some 94 := by kernel_rfl
theorem p8_20_11 : pj (regOf Try.f8 20) 11 = some (some 95, .move (.tmp 12), 3, some (10, false)) := by kernel_rfl
theorem p8_20_12 : pj (regOf Try.f8 20) 12 = some (some 96, .binOp .geq 3 (.tmp 95) (.const (.int .i64 0)) 3, 4, some (10, false)) := by kernel_rfl
theorem p8_20_13 : pj (regOf Try.f8 20) 13 = some (some 97, .move (.tmp 96), 4, some (10, false)) := by kernel_rfl
theorem g8_20_13 : dstOf (regOf Try.f8 20) 13 = some 97 := by kernel_rfl
theorem p8_20_14 : pj (regOf Try.f8 20) 14 = some (some 98, .load 64 (.tmp 9), 64, some (13, true)) := by kernel_rfl
theorem tA64 : (Try.prog.underlying 64).map aggD = some true := by kernel_rfl
theorem p8_20_16 : pj (regOf Try.f8 20) 16 = some (some 100, .move (.tmp 7), 58, some (13, true)) := by kernel_rfl
theorem p8_20_17 : pj (regOf Try.f8 20) 17 = some (some 101, .move (.tmp 12), 3, some (13, true)) := by kernel_rfl
theorem p8_20_18 : pj (regOf Try.f8 20) 18 = some (some 102, .move (.tmp 12), 3, some (13, true)) := by kernel_rfl
theorem p8_20_19 : pj (regOf Try.f8 20) 19 = some (some 103, .binOp .add 3 (.tmp 102) (.const (.int .i64 1)) 3, 3, some (13, true)) := by kernel_rfl
theorem p8_20_20 : pj (regOf Try.f8 20) 20 = some (some 104, .slice 58 (.tmp 100) (some (.tmp 101)) (some (.tmp 103)) none, 58, some (13, true)) := by kernel_rfl
theorem p8_20_15 : pj (regOf Try.f8 20) 15 = some (some 99, .buildSlice 58 1 #[(0, .tmp 98)], 58, some (13, true)) := by kernel_rfl
theorem p8_20_21 : pj (regOf Try.f8 20) 21 = some (some 105, .call { callee := .value (.func 37), args := #[.tmp 99, .tmp 104], argTypes := #[58, 58] }, 4, some (13, true)) := by kernel_rfl
theorem p8_20_22 : pj (regOf Try.f8 20) 22 = some (some 106, .unOp .not 4 (.tmp 105), 4, some (13, true)) := by kernel_rfl
theorem p8_20_23 : pj (regOf Try.f8 20) 23 = some (some 107, .pick (.tmp 97) (.tmp 106) (.const (.bool false)), 4, some (10, false)) := by kernel_rfl
theorem p8_20_24 : pj (regOf Try.f8 20) 24 = some (some 108, .pick (.tmp 94) (.const (.bool true)) (.tmp 107), 4, none) := by kernel_rfl
theorem p8_22_0 : pj (regOf Try.f8 22) 0 = some (some 109, .call { callee := .value (.func 34), args := #[], argTypes := #[] }, 4, none) := by kernel_rfl
theorem cl34 : callable Try.f34 = true := by kernel_rfl
theorem p8_22_1 : pj (regOf Try.f8 22) 1 = some (some 110, .move (.tmp 109), 4, none) := by kernel_rfl
theorem p8_22_2 : pj (regOf Try.f8 22) 2 = some (some 111, .move (.tmp 7), 58, some (1, true)) := by kernel_rfl
theorem g8_22_1 : dstOf (regOf Try.f8 22) 1 = some 110 := by kernel_rfl
theorem p8_22_3 : pj (regOf Try.f8 22) 3 = some (some 112, .move (.tmp 8), 58, some (1, true)) := by kernel_rfl
theorem p8_22_4 : pj (regOf Try.f8 22) 4 = some (some 113, .call { callee := .value (.func 37), args := #[.tmp 111, .tmp 112], argTypes := #[58, 58] }, 4, some (1, true)) := by kernel_rfl
theorem p8_22_5 : pj (regOf Try.f8 22) 5 = some (some 114, .move (.tmp 7), 58, some (1, true)) := by kernel_rfl
theorem p8_22_6 : pj (regOf Try.f8 22) 6 = some (some 115, .call { callee := .value (.func 39), args := #[.tmp 114], argTypes := #[58] }, 57, some (1, true)) := by kernel_rfl
theorem cl39 : callable Try.f39 = true := by kernel_rfl
theorem p8_22_7 : pj (regOf Try.f8 22) 7 = some (some 116, .move (.tmp 8), 58, some (1, true)) := by kernel_rfl
theorem p8_22_8 : pj (regOf Try.f8 22) 8 = some (some 117, .call { callee := .value (.func 39), args := #[.tmp 116], argTypes := #[58] }, 57, some (1, true)) := by kernel_rfl
theorem p8_22_9 : pj (regOf Try.f8 22) 9 = some (some 118, .call { callee := .value (.func 38), args := #[.tmp 115, .tmp 117], argTypes := #[57, 57] }, 4, some (1, true)) := by kernel_rfl
theorem cl38 : callable Try.f38 = true := by kernel_rfl
theorem p8_22_10 : pj (regOf Try.f8 22) 10 = some (some 119, .binOp .eql 4 (.tmp 113) (.tmp 118) 4, 4, some (1, true)) := by kernel_rfl
theorem p8_22_11 : pj (regOf Try.f8 22) 11 = some (some 120, .pick (.tmp 110) (.tmp 119) (.const (.bool false)), 4, none) := by kernel_rfl
theorem p8_22_12 : pj (regOf Try.f8 22) 12 = some (some 121, .move (.tmp 120), 4, none) := by kernel_rfl
theorem p8_22_13 : pj (regOf Try.f8 22) 13 = some (some 122, .move (.tmp 7), 58, some (12, true)) := by kernel_rfl
theorem g8_22_12 : dstOf (regOf Try.f8 22) 12 = some 121 := by kernel_rfl
theorem p8_22_14 : pj (regOf Try.f8 22) 14 = some (some 123, .move (.tmp 7), 58, some (12, true)) := by kernel_rfl
theorem p8_22_15 : pj (regOf Try.f8 22) 15 = some (some 124, .call { callee := .value (.func 37), args := #[.tmp 122, .tmp 123], argTypes := #[58, 58] }, 4, some (12, true)) := by kernel_rfl
theorem p8_22_16 : pj (regOf Try.f8 22) 16 = some (some 125, .pick (.tmp 121) (.tmp 124) (.const (.bool false)), 4, none) := by kernel_rfl
theorem p8_22_17 : pj (regOf Try.f8 22) 17 = some (some 6, .assign (.tmp 125), 4, none) := by kernel_rfl
set_option maxHeartbeats 4000000 in
theorem walk (a0 : Option Addr) (cap0 : Nat) (z0 : List (Int × (List Int) × (List Int) × (List Int))) (a1 : Option Addr) (cap1 : Nat) (z1 : List (Int × (List Int) × (List Int) × (List Int))) (a2 : Option Addr) (cap2 : Nat) (z2 : List Int) (w : World) (w0 : Kd.C dO w a0 z0.length z0) (m0 : z0.length ≤ cap0) (o0 : (z0.length ≤ maxLen ∧ ∀ x0 ∈ z0, ((Lit.int .i64 x0.1).wf = true ∧ ((x0.2.1.length ≤ maxLen ∧ ∀ x1 ∈ x0.2.1, (Lit.int .i64 x1).wf = true) ∧ ((x0.2.2.1.length = 16 ∧ ∀ x1 ∈ x0.2.2.1, (Lit.int .u8 x1).wf = true) ∧ ((x0.2.2.2.length ≤ maxLen ∧ ∀ x1 ∈ x0.2.2.2, (Lit.int .u8 x1).wf = true))))))) (y0 : z0.length * Try.prog.bytesOf 80 ≤ 140737488351232) (w1 : Kd.C dO w a1 z1.length z1) (m1 : z1.length ≤ cap1) (o1 : (z1.length ≤ maxLen ∧ ∀ x0 ∈ z1, ((Lit.int .i64 x0.1).wf = true ∧ ((x0.2.1.length ≤ maxLen ∧ ∀ x1 ∈ x0.2.1, (Lit.int .i64 x1).wf = true) ∧ ((x0.2.2.1.length = 16 ∧ ∀ x1 ∈ x0.2.2.1, (Lit.int .u8 x1).wf = true) ∧ ((x0.2.2.2.length ≤ maxLen ∧ ∀ x1 ∈ x0.2.2.2, (Lit.int .u8 x1).wf = true))))))) (y1 : z1.length * Try.prog.bytesOf 80 ≤ 140737488351232) (w2 : Kd.C (Kd.int .i64) w a2 z2.length z2) (m2 : z2.length ≤ cap2) (o2 : (z2.length ≤ maxLen ∧ ∀ x0 ∈ z2, (Lit.int .i64 x0).wf = true)) (y2 : z2.length * Try.prog.bytesOf 3 ≤ 140737488351232) : Calls Try.prog 8 #[.slice a0 z0.length cap0, .slice a1 z1.length cap1, .slice a2 z2.length cap2] w fun e w' => e = .returned (.bool true) ∧ Below w.heap.size w w' := by
  have K_0 := Kp.refl w (fun _ => False)
  have Fz0 := w0
  have Fz1 := w1
  have hoX := toL_ok o0
  have hoY := toL_ok o1
  have hlk : (z2.take (min z2.length 10)).length = (min z2.length 10) := by rw [List.length_take]; omega
  have FK : ∀ W', Kp w W' (fun _ => False) → Kd.C (Kd.int .i64) W' a2 (min z2.length 10) (z2.take (min z2.length 10)) := fun W' hk => C_take (C_to w2 hk) (by omega)
  have hX20 := toL_len z0
  have hwl := without_len (z2.take (min z2.length 10)) (toL z0)
  refine enter (args := [Value.slice a0 z0.length cap0, Value.slice a1 z1.length cap1, Value.slice a2 z2.length cap2]) (n := 126) Try.func8 body8 rfl rfl rfl ?_
  intro a hE
  refine c_reg R8_0_l ?_
  refine q0 p8_0_0 hE (st_assign rfl) ?_
  clear hE a; intro a hE
  refine p_nil ?_
  refine x_norm ?_
  refine c_reg R8_1_l ?_
  refine q0 p8_1_0 hE (st_move rfl) ?_
  clear hE a; intro a hE
  refine p_cons (s_call (xs := [Operand.tmp 17]) (args := [Value.slice a0 z0.length cap0]) p8_1_1 hE wn_none rfl rfl Try.func32 cl32 (to_n a0 cap0 z0.length z0 rfl _ (C_to Fz0 K_0) m0 (sub_bytes _ y0)) ?_)
  rintro e w4 ⟨A1, c2, rfl, hcapf3, hF9, hk⟩
  replace K_0 := K_0.then_ hk (fun _ h => h.elim)
  have K_s5 := Kp.refl w4 (fun _ => False)
  have hRf3 := hF9 _ (Kp.refl _ _)
  refine ⟨_, rfl, ?_⟩
  clear hE a; intro a hE
  refine q0 p8_1_2 hE (st_move rfl) ?_
  clear hE a; intro a hE
  refine p_cons (s_call (xs := [Operand.tmp 19]) (args := [Value.slice a1 z1.length cap1]) p8_1_3 hE wn_none rfl rfl Try.func32 cl32 (to_n a1 cap1 z1.length z1 rfl _ (C_to Fz1 K_0) m1 (sub_bytes _ y1)) ?_)
  rintro e w9 ⟨A6, c7, rfl, hcapf8, hF9, hk⟩
  replace K_0 := K_0.then_ hk (fun _ h => h.elim)
  replace K_s5 := K_s5.then_ hk (fun _ h => h.elim)
  have K_s10 := Kp.refl w9 (fun _ => False)
  have hRf8 := hF9 _ (Kp.refl _ _)
  refine ⟨_, rfl, ?_⟩
  clear hE a; intro a hE
  refine q0 p8_1_4 hE (st_assign rfl) ?_
  clear hE a; intro a hE
  refine q0 p8_1_5 hE (st_assign rfl) ?_
  clear hE a; intro a hE
  refine p_nil ?_
  refine x_norm ?_
  refine c_reg R8_2_l ?_
  refine q0 p8_2_0 hE (st_move rfl) ?_
  clear hE a; intro a hE
  refine q0 p8_2_1 hE (st_move rfl) ?_
  clear hE a; intro a hE
  refine q0 p8_2_2 hE (st_len Try.underlying62 rfl) ?_
  clear hE a; intro a hE
  refine q0 p8_2_3 hE (st_min (z := ((min z2.length 10 : Nat) : Int)) rfl rfl (by rw [Nat.min_def]; split <;> split <;> omega)) ?_
  clear hE a; intro a hE
  refine q0 p8_2_4 hE (st_sliceH (h := (min z2.length 10)) Try.underlying62 tS3 rfl rfl (by omega)) ?_
  clear hE a; intro a hE
  refine q0 p8_2_5 hE (st_assign rfl) ?_
  clear hE a; intro a hE
  refine p_nil ?_
  refine x_norm ?_
  refine c_reg R8_3_l ?_
  refine q0 p8_3_0 hE (st_move rfl) ?_
  clear hE a; intro a hE
  refine q0 p8_3_1 hE (st_move rfl) ?_
  clear hE a; intro a hE
  refine p_cons (s_call (xs := [Operand.tmp 27, Operand.tmp 28]) (args := [Value.slice A1 ((toL z0).length) c2, Value.slice a2 (min z2.length 10) cap2]) p8_3_2 hE wn_none rfl rfl Try.func35 cl35 (find_n A1 a2 c2 cap2 (min z2.length 10) (toL z0) (z2.take (min z2.length 10)) hlk hoX _ (C_to hRf3 K_s5) (fun W' hk => FK W' (K_0.then_ hk (fun _ h => h.elim))) (by have := toL_len z0; omega) (by omega)) ?_)
  rintro e w12 ⟨y, v, Ao11, To11, qo11, co11, rfl, hAt, hyv, hlo11, hmo11, hFi, hFt, hk⟩
  replace K_0 := K_0.then_ hk (fun _ h => h.elim)
  replace K_s5 := K_s5.then_ hk (fun _ h => h.elim)
  replace K_s10 := K_s10.then_ hk (fun _ h => h.elim)
  have Fio11 := hFi
  have Fto11 := hFt
  have K_s13 := Kp.refl w12 (fun _ => False)
  refine ⟨_, rfl, ?_⟩
  clear hE a; intro a hE
  refine q0 p8_3_3 hE (st_move rfl) ?_
  clear hE a; intro a hE
  refine q0 p8_3_4 hE (st_extract rfl rfl) ?_
  clear hE a; intro a hE
  refine q0 p8_3_5 hE (st_extract rfl rfl) ?_
  clear hE a; intro a hE
  refine p_cons (s_alloc p8_3_6 hE wn_none rfl tZ64 ?_)
  clear hE a; intro g14 w15 z16 B_g14 hk a hE
  replace B_g14 : w15.heap[g14]? = some (.cells (([Value.int .i64 0, Value.slice none 0 0] ++ b16 (fun _ => 0) ++ [Value.slice none 0 0])).toArray 64 (0, 0)) := B_g14
  have z_0_g14 := Nat.le_trans K_0.kept.1 z16
  have z_s5_g14 := Nat.le_trans K_s5.kept.1 z16
  have z_s10_g14 := Nat.le_trans K_s10.kept.1 z16
  have z_s13_g14 := Nat.le_trans K_s13.kept.1 z16
  replace K_0 := K_0.then_ hk (fun _ h => h.elim)
  replace K_s5 := K_s5.then_ hk (fun _ h => h.elim)
  replace K_s10 := K_s10.then_ hk (fun _ h => h.elim)
  replace K_s13 := K_s13.then_ hk (fun _ h => h.elim)
  clear hk
  refine p_cons (s_store (off := 0) (k := 19) (cs' := (([Value.int .i64 y.1, Value.slice Ao11 y.2.1.length qo11] ++ b16 (adr y) ++ [Value.slice To11 y.2.2.2.length co11])).toArray) p8_3_7 hE wn_none tS64 rfl rfl rfl rfl B_g14 (Nat.le_of_ble_eq_true rfl) rfl ?_)
  intro w17 B_g14' hk
  replace K_0 := K_0.then_ hk (fun k h => by rw [show k = g14 from h]; exact Or.inr z_0_g14)
  replace K_s5 := K_s5.then_ hk (fun k h => by rw [show k = g14 from h]; exact Or.inr z_s5_g14)
  replace K_s10 := K_s10.then_ hk (fun k h => by rw [show k = g14 from h]; exact Or.inr z_s10_g14)
  replace K_s13 := K_s13.then_ hk (fun k h => by rw [show k = g14 from h]; exact Or.inr z_s13_g14)
  replace B_g14 := B_g14'
  clear hk
  refine q0 p8_3_8 hE (st_assign rfl) ?_
  clear hE a; intro a hE
  refine p_nil ?_
  refine x_norm ?_
  refine c_reg R8_4_l ?_
  refine q0 p8_4_0 hE (st_move rfl) ?_
  clear hE a; intro a hE
  refine q0 p8_4_1 hE (st_move rfl) ?_
  clear hE a; intro a hE
  refine p_cons (s_call (xs := [Operand.tmp 32, Operand.tmp 33]) (args := [Value.slice A1 ((toL z0).length) c2, Value.slice a2 (min z2.length 10) cap2]) p8_4_2 hE wn_none rfl rfl Try.func36 cl36 (with_n A1 a2 c2 cap2 (min z2.length 10) (toL z0) (z2.take (min z2.length 10)) hlk hoX _ (C_to hRf3 K_s5) (fun W' hk => FK W' (K_0.then_ hk (fun _ h => h.elim))) (by have := toL_len z0; omega) (by omega)) ?_)
  rintro e w21 ⟨A18, c19, rfl, hcapf20, hF9, hk⟩
  replace B_g14 := kp_blk B_g14 hk (fun h => h)
  replace K_0 := K_0.then_ hk (fun _ h => h.elim)
  replace K_s5 := K_s5.then_ hk (fun _ h => h.elim)
  replace K_s10 := K_s10.then_ hk (fun _ h => h.elim)
  replace K_s13 := K_s13.then_ hk (fun _ h => h.elim)
  have K_s22 := Kp.refl w21 (fun _ => False)
  have hRf20 := hF9 _ (Kp.refl _ _)
  refine ⟨_, rfl, ?_⟩
  clear hE a; intro a hE
  refine q0 p8_4_3 hE (st_assign rfl) ?_
  clear hE a; intro a hE
  refine p_nil ?_
  refine x_norm ?_
  refine c_reg R8_5_l ?_
  refine q0 p8_5_0 hE (st_assign rfl) ?_
  clear hE a; intro a hE
  refine q0 p8_5_1 hE (st_assign rfl) ?_
  clear hE a; intro a hE
  refine p_nil ?_
  refine x_norm ?_
  refine wp_seq ?_
  refine c_reg R8_6_l ?_
  refine q0 p8_6_0 hE (st_assign rfl) ?_
  clear hE a; intro a hE
  refine p_nil ?_
  refine x_norm ?_
  refine wp_block ?_
  refine c_loop (α := Nat) (fun i a W => ∃ (at9 : Int), ∃ (n9 : Nat), En 126 a [(0, Value.slice a0 z0.length cap0), (1, Value.slice a1 z1.length cap1), (2, Value.slice a2 (min z2.length 10) cap2), (7, Value.slice A1 ((toL z0).length) c2), (8, Value.slice A6 ((toL z1).length) c7), (9, Value.pointer (some ⟨g14, 0, none⟩)), (10, Value.bool (decide (0 ≤ v))), (11, Value.slice A18 ((without (z2.take (min z2.length 10)) (toL z0)).length) c19), (14, Value.int .i64 (i : Int)), (12, Value.int .i64 at9), (13, Value.int .i64 (n9 : Int))] ∧ i ≤ (toL z0).length ∧ (AtP (z2.take (min z2.length 10)) (toL z0) i at9) ∧ (n9 = (without (z2.take (min z2.length 10)) ((toL z0).take i)).length) ∧ W.heap[g14]? = some (.cells (([Value.int .i64 y.1, Value.slice Ao11 y.2.1.length qo11] ++ b16 (adr y) ++ [Value.slice To11 y.2.2.2.length co11])).toArray 64 (0, 0)) ∧ Kp w W (fun _ => False) ∧ Kp w4 W (fun _ => False) ∧ Kp w9 W (fun _ => False) ∧ Kp w12 W (fun _ => False) ∧ Kp w21 W (fun _ => False)) (fun i => (toL z0).length - i) (0) ?_ ?_
  ·
    exact ⟨(-1), 0, En.sub hE ⟨rfl, rfl, rfl, rfl, rfl, rfl, rfl, rfl, rfl, rfl, rfl, trivial⟩, Nat.zero_le _, (at_zero _ _), rfl, B_g14, K_0, K_s5, K_s10, K_s13, K_s22⟩
  ·
    clear hE a
    rintro i a w23 ⟨at9, n9, hE, hi9, hat, hn9, B_g14, K_0, K_s5, K_s10, K_s13, K_s22⟩
    refine wp_seq ?_
    rcases Decidable.em ((i : Int) < ((toL z0).length : Int)) with hK1 | hK1
    ·
      refine c_reg R8_7_l ?_
      refine q0 p8_7_0 hE (st_move rfl) ?_
      clear hE a; intro a hE
      refine q0 p8_7_1 hE (st_move rfl) ?_
      clear hE a; intro a hE
      refine q0 p8_7_2 hE (st_len Try.underlying58 rfl) ?_
      clear hE a; intro a hE
      refine q0 p8_7_3 hE (st_lss (b := true) rfl rfl (decide_eq_true hK1)) ?_
      clear hE a; intro a hE
      refine p_nil ?_
      refine x_norm ?_
      refine c_cond (t := true) hE rfl ?_
      refine wp_skip ?_
      refine x_norm ?_
      refine wp_seq ?_
      refine wp_block ?_
      refine c_reg R8_9_l ?_
      have hix : i < (toL z0).length := by omega
      obtain ⟨hAe24, cce24, hKe24, hce24⟩ := C_elem (i := i) hRf3 zO (show i < (toL z0).length by omega)
      obtain ⟨x, hxe24⟩ : ∃ x, List.getD (toL z0) i zO = x := ⟨_, rfl⟩
      rw [hxe24] at hKe24
      obtain ⟨Ae24, qe24, Te24, ce24, rfl, hle24, hme24, hCe24, hDe24⟩ := opt_open hKe24
      refine q0 p8_9_0 hE (st_assign rfl) ?_
      clear hE a; intro a hE
      refine p_nil ?_
      refine x_norm ?_
      refine wp_seq ?_
      refine c_reg R8_10_l ?_
      refine q0 p8_10_0 hE (st_assign rfl) ?_
      clear hE a; intro a hE
      refine p_nil ?_
      refine x_norm ?_
      refine wp_block ?_
      refine c_loop (α := Nat) (fun j a W => ∃ (hb : Bool), En 126 a [(0, Value.slice a0 z0.length cap0), (1, Value.slice a1 z1.length cap1), (2, Value.slice a2 (min z2.length 10) cap2), (7, Value.slice A1 ((toL z0).length) c2), (8, Value.slice A6 ((toL z1).length) c7), (9, Value.pointer (some ⟨g14, 0, none⟩)), (10, Value.bool (decide (0 ≤ v))), (11, Value.slice A18 ((without (z2.take (min z2.length 10)) (toL z0)).length) c19), (14, Value.int .i64 (i : Int)), (12, Value.int .i64 at9), (13, Value.int .i64 (n9 : Int)), (38, Value.bool true), (16, Value.int .i64 (j : Int)), (15, Value.bool hb)] ∧ j ≤ (min z2.length 10) ∧ (hb = decide (x.1 ∈ (z2.take (min z2.length 10)).take j)) ∧ W.heap[g14]? = some (.cells (([Value.int .i64 y.1, Value.slice Ao11 y.2.1.length qo11] ++ b16 (adr y) ++ [Value.slice To11 y.2.2.2.length co11])).toArray 64 (0, 0)) ∧ Kp w W (fun _ => False) ∧ Kp w4 W (fun _ => False) ∧ Kp w9 W (fun _ => False) ∧ Kp w12 W (fun _ => False) ∧ Kp w21 W (fun _ => False)) (fun j => (min z2.length 10) - j) (0) ?_ ?_
      ·
        exact ⟨false, En.sub hE ⟨rfl, rfl, rfl, rfl, rfl, rfl, rfl, rfl, rfl, rfl, rfl, rfl, rfl, rfl, trivial⟩, Nat.zero_le _, (by simp), B_g14, K_0, K_s5, K_s10, K_s13, K_s22⟩
      ·
        clear hE a
        rintro j a w25 ⟨hb, hE, hj9, hhb, B_g14, K_0, K_s5, K_s10, K_s13, K_s22⟩
        refine wp_seq ?_
        rcases Decidable.em ((j : Int) < (((min z2.length 10) : Nat) : Int)) with hJ1 | hJ1
        ·
          refine c_reg R8_11_l ?_
          refine q0 p8_11_0 hE (st_move rfl) ?_
          clear hE a; intro a hE
          refine q0 p8_11_1 hE (st_move rfl) ?_
          clear hE a; intro a hE
          refine q0 p8_11_2 hE (st_len Try.underlying62 rfl) ?_
          clear hE a; intro a hE
          refine q0 p8_11_3 hE (st_lss (b := true) rfl rfl (decide_eq_true hJ1)) ?_
          clear hE a; intro a hE
          refine p_nil ?_
          refine x_norm ?_
          refine c_cond (t := true) hE rfl ?_
          refine wp_skip ?_
          refine x_norm ?_
          refine wp_seq ?_
          refine wp_block ?_
          rcases Decidable.em (hb = true) with hHB | hHB
          ·
            obtain rfl : hb = true := hHB
            refine c_draw (S := fun W => W.heap[g14]? = some (.cells (([Value.int .i64 y.1, Value.slice Ao11 y.2.1.length qo11] ++ b16 (adr y) ++ [Value.slice To11 y.2.2.2.length co11])).toArray 64 (0, 0)) ∧ Kd.C (Kd.int .i64) W a2 (min z2.length 10) (z2.take (min z2.length 10)) ∧ (∀ j u, (([Value.int .i64 x.1, Value.slice Ae24 x.2.1.length qe24] ++ b16 (adr x) ++ [Value.slice Te24 x.2.2.2.length ce24]))[j]? = some u → W.cell? (ea A1 (i * 19 + j)) = some u) ∧ True) rfl rfl (listed := #[false, false, false, false, false, false, false, false, false, false, false, false, false, false]) rfl ?_
            intro w26 hh hk
            replace B_g14 := kp_blk B_g14 hk (fun h => h)
            replace K_0 := K_0.then_ hk (fun _ h => h.elim)
            replace K_s5 := K_s5.then_ hk (fun _ h => h.elim)
            replace K_s10 := K_s10.then_ hk (fun _ h => h.elim)
            replace K_s13 := K_s13.then_ hk (fun _ h => h.elim)
            replace K_s22 := K_s22.then_ hk (fun _ h => h.elim)
            clear hh hk
            refine d_take (v := Value.bool true) p8_13_0 ns8_13 (by kernel_rfl) (by kernel_rfl) (fun _ _ _ h => h) hE wn_none rfl ⟨B_g14, (FK _ K_0), (fun j u h => cell_to K_s5 (hce24 j u h)), trivial⟩ (fun W hS => (st_move rfl)) rfl ?_
            clear hE a; intro a hE
            refine d_take (v := Value.bool true) p8_13_1 ns8_13 (by kernel_rfl) (by kernel_rfl) (fun _ _ _ h => h) hE wn_none rfl ⟨B_g14, (FK _ K_0), (fun j u h => cell_to K_s5 (hce24 j u h)), trivial⟩ (fun W hS => (st_move rfl)) rfl ?_
            clear hE a; intro a hE
            refine d_skip p8_13_2 ns8_13 (by kernel_rfl) (by kernel_rfl) (fun _ _ _ h => h) hE (wn_some g8_13_1 rfl rfl) rfl ⟨B_g14, (FK _ K_0), (fun j u h => cell_to K_s5 (hce24 j u h)), trivial⟩ rfl ?_
            clear hE a; intro a hE
            refine d_skip p8_13_3 ns8_13 (by kernel_rfl) (by kernel_rfl) (fun _ _ _ h => h) hE (wn_some g8_13_1 rfl rfl) rfl ⟨B_g14, (FK _ K_0), (fun j u h => cell_to K_s5 (hce24 j u h)), trivial⟩ rfl ?_
            clear hE a; intro a hE
            refine d_skip p8_13_4 ns8_13 (by kernel_rfl) (by kernel_rfl) (fun _ _ _ h => h) hE (wn_some g8_13_1 rfl rfl) rfl ⟨B_g14, (FK _ K_0), (fun j u h => cell_to K_s5 (hce24 j u h)), trivial⟩ rfl ?_
            clear hE a; intro a hE
            refine d_skip p8_13_5 ns8_13 (by kernel_rfl) (by kernel_rfl) (fun _ _ _ h => h) hE (wn_some g8_13_1 rfl rfl) rfl ⟨B_g14, (FK _ K_0), (fun j u h => cell_to K_s5 (hce24 j u h)), trivial⟩ rfl ?_
            clear hE a; intro a hE
            refine d_skip p8_13_6 ns8_13 (by kernel_rfl) (by kernel_rfl) (fun _ _ _ h => h) hE (wn_some g8_13_1 rfl rfl) rfl ⟨B_g14, (FK _ K_0), (fun j u h => cell_to K_s5 (hce24 j u h)), trivial⟩ rfl ?_
            clear hE a; intro a hE
            refine d_skip p8_13_7 ns8_13 (by kernel_rfl) (by kernel_rfl) (fun _ _ _ h => h) hE (wn_some g8_13_1 rfl rfl) rfl ⟨B_g14, (FK _ K_0), (fun j u h => cell_to K_s5 (hce24 j u h)), trivial⟩ rfl ?_
            clear hE a; intro a hE
            refine d_skip p8_13_8 ns8_13 (by kernel_rfl) (by kernel_rfl) (fun _ _ _ h => h) hE (wn_some g8_13_1 rfl rfl) rfl ⟨B_g14, (FK _ K_0), (fun j u h => cell_to K_s5 (hce24 j u h)), trivial⟩ rfl ?_
            clear hE a; intro a hE
            refine d_skip p8_13_9 ns8_13 (by kernel_rfl) (by kernel_rfl) (fun _ _ _ h => h) hE (wn_some g8_13_1 rfl rfl) rfl ⟨B_g14, (FK _ K_0), (fun j u h => cell_to K_s5 (hce24 j u h)), trivial⟩ rfl ?_
            clear hE a; intro a hE
            refine d_skip p8_13_10 ns8_13 (by kernel_rfl) (by kernel_rfl) (fun _ _ _ h => h) hE (wn_some g8_13_1 rfl rfl) rfl ⟨B_g14, (FK _ K_0), (fun j u h => cell_to K_s5 (hce24 j u h)), trivial⟩ rfl ?_
            clear hE a; intro a hE
            refine d_skip p8_13_11 ns8_13 (by kernel_rfl) (by kernel_rfl) (fun _ _ _ h => h) hE (wn_some g8_13_1 rfl rfl) rfl ⟨B_g14, (FK _ K_0), (fun j u h => cell_to K_s5 (hce24 j u h)), trivial⟩ rfl ?_
            clear hE a; intro a hE
            refine d_take (v := Value.bool true) p8_13_12 ns8_13 (by kernel_rfl) (by kernel_rfl) (fun _ _ _ h => h) hE wn_none rfl ⟨B_g14, (FK _ K_0), (fun j u h => cell_to K_s5 (hce24 j u h)), trivial⟩ (fun W hS => (st_pick rfl rfl)) rfl ?_
            clear hE a; intro a hE
            refine d_take (v := Value.bool true) p8_13_13 ns8_13 (by kernel_rfl) (by kernel_rfl) (fun _ _ _ h => h) hE wn_none rfl ⟨B_g14, (FK _ K_0), (fun j u h => cell_to K_s5 (hce24 j u h)), trivial⟩ (fun W hS => (st_assign rfl)) rfl ?_
            clear hE a; intro a hE
            refine d_end (by kernel_rfl) ?_
            refine x_normB ?_
            refine x_norm ?_
            refine c_regL R8_12_l ?_
            refine q0 p8_12_0 hE (st_move rfl) ?_
            clear hE a; intro a hE
            refine q0 p8_12_1 hE (st_add (z := (j : Int) + 1) rfl rfl (wr_i64 _ (by omega) (by omega))) ?_
            clear hE a; intro a hE
            refine q0 p8_12_2 hE (st_assign rfl) ?_
            clear hE a; intro a hE
            refine p_nil ?_
            refine x_norm ?_
            have hhb9 : decide (x.1 ∈ (z2.take (min z2.length 10)).take (j + 1)) = true := by rw [hit_succ (by omega), ← hhb]; rfl
            exact ⟨j + 1, by omega, true, En.sub hE ⟨rfl, rfl, rfl, rfl, rfl, rfl, rfl, rfl, rfl, rfl, rfl, rfl, rfl, rfl, trivial⟩, by omega, hhb9.symm, B_g14, K_0, K_s5, K_s10, K_s13, K_s22⟩
          ·
            obtain rfl : hb = false := by simpa using hHB
            rcases Decidable.em (rd (z2.take (min z2.length 10)) (j : Int) = x.1) with hEK | hEK
            ·
              refine c_draw (S := fun W => W.heap[g14]? = some (.cells (([Value.int .i64 y.1, Value.slice Ao11 y.2.1.length qo11] ++ b16 (adr y) ++ [Value.slice To11 y.2.2.2.length co11])).toArray 64 (0, 0)) ∧ Kd.C (Kd.int .i64) W a2 (min z2.length 10) (z2.take (min z2.length 10)) ∧ (∀ j u, (([Value.int .i64 x.1, Value.slice Ae24 x.2.1.length qe24] ++ b16 (adr x) ++ [Value.slice Te24 x.2.2.2.length ce24]))[j]? = some u → W.cell? (ea A1 (i * 19 + j)) = some u) ∧ True) rfl rfl (listed := #[false, false, false, false, false, false, false, false, false, false, false, false, false, false]) rfl ?_
              intro w27 hh hk
              replace B_g14 := kp_blk B_g14 hk (fun h => h)
              replace K_0 := K_0.then_ hk (fun _ h => h.elim)
              replace K_s5 := K_s5.then_ hk (fun _ h => h.elim)
              replace K_s10 := K_s10.then_ hk (fun _ h => h.elim)
              replace K_s13 := K_s13.then_ hk (fun _ h => h.elim)
              replace K_s22 := K_s22.then_ hk (fun _ h => h.elim)
              clear hh hk
              refine d_take (v := Value.bool false) p8_13_0 ns8_13 (by kernel_rfl) (by kernel_rfl) (fun _ _ _ h => h) hE wn_none rfl ⟨B_g14, (FK _ K_0), (fun j u h => cell_to K_s5 (hce24 j u h)), trivial⟩ (fun W hS => (st_move rfl)) rfl ?_
              clear hE a; intro a hE
              refine d_take (v := Value.bool false) p8_13_1 ns8_13 (by kernel_rfl) (by kernel_rfl) (fun _ _ _ h => h) hE wn_none rfl ⟨B_g14, (FK _ K_0), (fun j u h => cell_to K_s5 (hce24 j u h)), trivial⟩ (fun W hS => (st_move rfl)) rfl ?_
              clear hE a; intro a hE
              refine d_take (v := Value.slice a2 (min z2.length 10) cap2) p8_13_2 ns8_13 (by kernel_rfl) (by kernel_rfl) (fun _ _ _ h => h) hE (wn_some g8_13_1 rfl rfl) rfl ⟨B_g14, (FK _ K_0), (fun j u h => cell_to K_s5 (hce24 j u h)), trivial⟩ (fun W hS => (st_move rfl)) rfl ?_
              clear hE a; intro a hE
              refine d_take (v := Value.int .i64 (j : Int)) p8_13_3 ns8_13 (by kernel_rfl) (by kernel_rfl) (fun _ _ _ h => h) hE (wn_some g8_13_1 rfl rfl) rfl ⟨B_g14, (FK _ K_0), (fun j u h => cell_to K_s5 (hce24 j u h)), trivial⟩ (fun W hS => (st_move rfl)) rfl ?_
              clear hE a; intro a hE
              refine d_take (v := Value.pointer (some (ea a2 j))) p8_13_4 ns8_13 (by kernel_rfl) (by kernel_rfl) (fun _ _ _ h => h) hE (wn_some g8_13_1 rfl rfl) rfl ⟨B_g14, (FK _ K_0), (fun j u h => cell_to K_s5 (hce24 j u h)), trivial⟩ (fun W hS => (st_indexAddrS (i := j) Try.underlying62 tS3 (C_at (FK _ K_0) (show j < _ by omega)).1 rfl rfl (by omega))) rfl ?_
              clear hE a; intro a hE
              refine d_take (v := Value.int .i64 (rd (z2.take (min z2.length 10)) (j : Int))) p8_13_5 ns8_13 (by kernel_rfl) (by kernel_rfl) (fun _ _ _ h => h) hE (wn_some g8_13_1 rfl rfl) rfl ⟨B_g14, (FK _ K_0), (fun j u h => cell_to K_s5 (hce24 j u h)), trivial⟩ (fun W hS => (st_loadC (i := j) tA3 (hS.2.1) (by omega) rfl)) rfl ?_
              clear hE a; intro a hE
              refine d_take (v := Value.slice A1 ((toL z0).length) c2) p8_13_6 ns8_13 (by kernel_rfl) (by kernel_rfl) (fun _ _ _ h => h) hE (wn_some g8_13_1 rfl rfl) rfl ⟨B_g14, (FK _ K_0), (fun j u h => cell_to K_s5 (hce24 j u h)), trivial⟩ (fun W hS => (st_move rfl)) rfl ?_
              clear hE a; intro a hE
              refine d_take (v := Value.int .i64 (i : Int)) p8_13_7 ns8_13 (by kernel_rfl) (by kernel_rfl) (fun _ _ _ h => h) hE (wn_some g8_13_1 rfl rfl) rfl ⟨B_g14, (FK _ K_0), (fun j u h => cell_to K_s5 (hce24 j u h)), trivial⟩ (fun W hS => (st_move rfl)) rfl ?_
              clear hE a; intro a hE
              refine d_take (v := Value.pointer (some (ea A1 (i * 19)))) p8_13_8 ns8_13 (by kernel_rfl) (by kernel_rfl) (fun _ _ _ h => h) hE (wn_some g8_13_1 rfl rfl) rfl ⟨B_g14, (FK _ K_0), (fun j u h => cell_to K_s5 (hce24 j u h)), trivial⟩ (fun W hS => (st_indexAddrR (i := i) (s := 19) Try.underlying58 tS64 hAe24 rfl rfl (by omega))) rfl ?_
              clear hE a; intro a hE
              refine d_take (v := Value.pointer (some (ea A1 (i * 19)))) p8_13_9 ns8_13 (by kernel_rfl) (by kernel_rfl) (fun _ _ _ h => h) hE (wn_some g8_13_1 rfl rfl) rfl ⟨B_g14, (FK _ K_0), (fun j u h => cell_to K_s5 (hce24 j u h)), trivial⟩ (fun W hS => (st_fieldAddrR (off := i * 19) (f0 := 0) (o' := i * 19) Try.underlying64 rfl tS3 rfl (by omega) rfl)) rfl ?_
              clear hE a; intro a hE
              refine d_take (v := Value.int .i64 x.1) p8_13_10 ns8_13 (by kernel_rfl) (by kernel_rfl) (fun _ _ _ h => h) hE (wn_some g8_13_1 rfl rfl) rfl ⟨B_g14, (FK _ K_0), (fun j u h => cell_to K_s5 (hce24 j u h)), trivial⟩ (fun W hS => (st_loadR1 (off := i * 19) (j := 0) tA3 (hS.2.2.1) rfl (by omega) rfl)) rfl ?_
              clear hE a; intro a hE
              refine d_take (v := Value.bool true) p8_13_11 ns8_13 (by kernel_rfl) (by kernel_rfl) (fun _ _ _ h => h) hE (wn_some g8_13_1 rfl rfl) rfl ⟨B_g14, (FK _ K_0), (fun j u h => cell_to K_s5 (hce24 j u h)), trivial⟩ (fun W hS => (st_eql (b := true) rfl rfl (decide_eq_true hEK))) rfl ?_
              clear hE a; intro a hE
              refine d_take (v := Value.bool true) p8_13_12 ns8_13 (by kernel_rfl) (by kernel_rfl) (fun _ _ _ h => h) hE wn_none rfl ⟨B_g14, (FK _ K_0), (fun j u h => cell_to K_s5 (hce24 j u h)), trivial⟩ (fun W hS => (st_pick rfl rfl)) rfl ?_
              clear hE a; intro a hE
              refine d_take (v := Value.bool true) p8_13_13 ns8_13 (by kernel_rfl) (by kernel_rfl) (fun _ _ _ h => h) hE wn_none rfl ⟨B_g14, (FK _ K_0), (fun j u h => cell_to K_s5 (hce24 j u h)), trivial⟩ (fun W hS => (st_assign rfl)) rfl ?_
              clear hE a; intro a hE
              refine d_end (by kernel_rfl) ?_
              refine x_normB ?_
              refine x_norm ?_
              refine c_regL R8_12_l ?_
              refine q0 p8_12_0 hE (st_move rfl) ?_
              clear hE a; intro a hE
              refine q0 p8_12_1 hE (st_add (z := (j : Int) + 1) rfl rfl (wr_i64 _ (by omega) (by omega))) ?_
              clear hE a; intro a hE
              refine q0 p8_12_2 hE (st_assign rfl) ?_
              clear hE a; intro a hE
              refine p_nil ?_
              refine x_norm ?_
              have hhb9 : decide (x.1 ∈ (z2.take (min z2.length 10)).take (j + 1)) = true := by rw [hit_succ (by omega), ← hhb]; rw [decide_eq_true hEK]; rfl
              exact ⟨j + 1, by omega, true, En.sub hE ⟨rfl, rfl, rfl, rfl, rfl, rfl, rfl, rfl, rfl, rfl, rfl, rfl, rfl, rfl, trivial⟩, by omega, hhb9.symm, B_g14, K_0, K_s5, K_s10, K_s13, K_s22⟩
            ·
              refine c_draw (S := fun W => W.heap[g14]? = some (.cells (([Value.int .i64 y.1, Value.slice Ao11 y.2.1.length qo11] ++ b16 (adr y) ++ [Value.slice To11 y.2.2.2.length co11])).toArray 64 (0, 0)) ∧ Kd.C (Kd.int .i64) W a2 (min z2.length 10) (z2.take (min z2.length 10)) ∧ (∀ j u, (([Value.int .i64 x.1, Value.slice Ae24 x.2.1.length qe24] ++ b16 (adr x) ++ [Value.slice Te24 x.2.2.2.length ce24]))[j]? = some u → W.cell? (ea A1 (i * 19 + j)) = some u) ∧ True) rfl rfl (listed := #[false, false, false, false, false, false, false, false, false, false, false, false, false, false]) rfl ?_
              intro w28 hh hk
              replace B_g14 := kp_blk B_g14 hk (fun h => h)
              replace K_0 := K_0.then_ hk (fun _ h => h.elim)
              replace K_s5 := K_s5.then_ hk (fun _ h => h.elim)
              replace K_s10 := K_s10.then_ hk (fun _ h => h.elim)
              replace K_s13 := K_s13.then_ hk (fun _ h => h.elim)
              replace K_s22 := K_s22.then_ hk (fun _ h => h.elim)
              clear hh hk
              refine d_take (v := Value.bool false) p8_13_0 ns8_13 (by kernel_rfl) (by kernel_rfl) (fun _ _ _ h => h) hE wn_none rfl ⟨B_g14, (FK _ K_0), (fun j u h => cell_to K_s5 (hce24 j u h)), trivial⟩ (fun W hS => (st_move rfl)) rfl ?_
              clear hE a; intro a hE
              refine d_take (v := Value.bool false) p8_13_1 ns8_13 (by kernel_rfl) (by kernel_rfl) (fun _ _ _ h => h) hE wn_none rfl ⟨B_g14, (FK _ K_0), (fun j u h => cell_to K_s5 (hce24 j u h)), trivial⟩ (fun W hS => (st_move rfl)) rfl ?_
              clear hE a; intro a hE
              refine d_take (v := Value.slice a2 (min z2.length 10) cap2) p8_13_2 ns8_13 (by kernel_rfl) (by kernel_rfl) (fun _ _ _ h => h) hE (wn_some g8_13_1 rfl rfl) rfl ⟨B_g14, (FK _ K_0), (fun j u h => cell_to K_s5 (hce24 j u h)), trivial⟩ (fun W hS => (st_move rfl)) rfl ?_
              clear hE a; intro a hE
              refine d_take (v := Value.int .i64 (j : Int)) p8_13_3 ns8_13 (by kernel_rfl) (by kernel_rfl) (fun _ _ _ h => h) hE (wn_some g8_13_1 rfl rfl) rfl ⟨B_g14, (FK _ K_0), (fun j u h => cell_to K_s5 (hce24 j u h)), trivial⟩ (fun W hS => (st_move rfl)) rfl ?_
              clear hE a; intro a hE
              refine d_take (v := Value.pointer (some (ea a2 j))) p8_13_4 ns8_13 (by kernel_rfl) (by kernel_rfl) (fun _ _ _ h => h) hE (wn_some g8_13_1 rfl rfl) rfl ⟨B_g14, (FK _ K_0), (fun j u h => cell_to K_s5 (hce24 j u h)), trivial⟩ (fun W hS => (st_indexAddrS (i := j) Try.underlying62 tS3 (C_at (FK _ K_0) (show j < _ by omega)).1 rfl rfl (by omega))) rfl ?_
              clear hE a; intro a hE
              refine d_take (v := Value.int .i64 (rd (z2.take (min z2.length 10)) (j : Int))) p8_13_5 ns8_13 (by kernel_rfl) (by kernel_rfl) (fun _ _ _ h => h) hE (wn_some g8_13_1 rfl rfl) rfl ⟨B_g14, (FK _ K_0), (fun j u h => cell_to K_s5 (hce24 j u h)), trivial⟩ (fun W hS => (st_loadC (i := j) tA3 (hS.2.1) (by omega) rfl)) rfl ?_
              clear hE a; intro a hE
              refine d_take (v := Value.slice A1 ((toL z0).length) c2) p8_13_6 ns8_13 (by kernel_rfl) (by kernel_rfl) (fun _ _ _ h => h) hE (wn_some g8_13_1 rfl rfl) rfl ⟨B_g14, (FK _ K_0), (fun j u h => cell_to K_s5 (hce24 j u h)), trivial⟩ (fun W hS => (st_move rfl)) rfl ?_
              clear hE a; intro a hE
              refine d_take (v := Value.int .i64 (i : Int)) p8_13_7 ns8_13 (by kernel_rfl) (by kernel_rfl) (fun _ _ _ h => h) hE (wn_some g8_13_1 rfl rfl) rfl ⟨B_g14, (FK _ K_0), (fun j u h => cell_to K_s5 (hce24 j u h)), trivial⟩ (fun W hS => (st_move rfl)) rfl ?_
              clear hE a; intro a hE
              refine d_take (v := Value.pointer (some (ea A1 (i * 19)))) p8_13_8 ns8_13 (by kernel_rfl) (by kernel_rfl) (fun _ _ _ h => h) hE (wn_some g8_13_1 rfl rfl) rfl ⟨B_g14, (FK _ K_0), (fun j u h => cell_to K_s5 (hce24 j u h)), trivial⟩ (fun W hS => (st_indexAddrR (i := i) (s := 19) Try.underlying58 tS64 hAe24 rfl rfl (by omega))) rfl ?_
              clear hE a; intro a hE
              refine d_take (v := Value.pointer (some (ea A1 (i * 19)))) p8_13_9 ns8_13 (by kernel_rfl) (by kernel_rfl) (fun _ _ _ h => h) hE (wn_some g8_13_1 rfl rfl) rfl ⟨B_g14, (FK _ K_0), (fun j u h => cell_to K_s5 (hce24 j u h)), trivial⟩ (fun W hS => (st_fieldAddrR (off := i * 19) (f0 := 0) (o' := i * 19) Try.underlying64 rfl tS3 rfl (by omega) rfl)) rfl ?_
              clear hE a; intro a hE
              refine d_take (v := Value.int .i64 x.1) p8_13_10 ns8_13 (by kernel_rfl) (by kernel_rfl) (fun _ _ _ h => h) hE (wn_some g8_13_1 rfl rfl) rfl ⟨B_g14, (FK _ K_0), (fun j u h => cell_to K_s5 (hce24 j u h)), trivial⟩ (fun W hS => (st_loadR1 (off := i * 19) (j := 0) tA3 (hS.2.2.1) rfl (by omega) rfl)) rfl ?_
              clear hE a; intro a hE
              refine d_take (v := Value.bool false) p8_13_11 ns8_13 (by kernel_rfl) (by kernel_rfl) (fun _ _ _ h => h) hE (wn_some g8_13_1 rfl rfl) rfl ⟨B_g14, (FK _ K_0), (fun j u h => cell_to K_s5 (hce24 j u h)), trivial⟩ (fun W hS => (st_eql (b := false) rfl rfl (decide_eq_false hEK))) rfl ?_
              clear hE a; intro a hE
              refine d_take (v := Value.bool false) p8_13_12 ns8_13 (by kernel_rfl) (by kernel_rfl) (fun _ _ _ h => h) hE wn_none rfl ⟨B_g14, (FK _ K_0), (fun j u h => cell_to K_s5 (hce24 j u h)), trivial⟩ (fun W hS => (st_pick rfl rfl)) rfl ?_
              clear hE a; intro a hE
              refine d_take (v := Value.bool false) p8_13_13 ns8_13 (by kernel_rfl) (by kernel_rfl) (fun _ _ _ h => h) hE wn_none rfl ⟨B_g14, (FK _ K_0), (fun j u h => cell_to K_s5 (hce24 j u h)), trivial⟩ (fun W hS => (st_assign rfl)) rfl ?_
              clear hE a; intro a hE
              refine d_end (by kernel_rfl) ?_
              refine x_normB ?_
              refine x_norm ?_
              refine c_regL R8_12_l ?_
              refine q0 p8_12_0 hE (st_move rfl) ?_
              clear hE a; intro a hE
              refine q0 p8_12_1 hE (st_add (z := (j : Int) + 1) rfl rfl (wr_i64 _ (by omega) (by omega))) ?_
              clear hE a; intro a hE
              refine q0 p8_12_2 hE (st_assign rfl) ?_
              clear hE a; intro a hE
              refine p_nil ?_
              refine x_norm ?_
              have hhb9 : decide (x.1 ∈ (z2.take (min z2.length 10)).take (j + 1)) = false := by rw [hit_succ (by omega), ← hhb]; rw [decide_eq_false hEK]; rfl
              exact ⟨j + 1, by omega, false, En.sub hE ⟨rfl, rfl, rfl, rfl, rfl, rfl, rfl, rfl, rfl, rfl, rfl, rfl, rfl, rfl, trivial⟩, by omega, hhb9.symm, B_g14, K_0, K_s5, K_s10, K_s13, K_s22⟩
        ·
          refine c_reg R8_11_l ?_
          refine q0 p8_11_0 hE (st_move rfl) ?_
          clear hE a; intro a hE
          refine q0 p8_11_1 hE (st_move rfl) ?_
          clear hE a; intro a hE
          refine q0 p8_11_2 hE (st_len Try.underlying62 rfl) ?_
          clear hE a; intro a hE
          refine q0 p8_11_3 hE (st_lss (b := false) rfl rfl (decide_eq_false hJ1)) ?_
          clear hE a; intro a hE
          refine p_nil ?_
          refine x_norm ?_
          refine c_cond (t := false) hE rfl ?_
          refine wp_exit ?_
          refine x_exit ?_
          refine x_exit ?_
          have hji : j = (min z2.length 10) := by omega
          subst hji
          have hof : hb = ofK (z2.take (min z2.length 10)) x := by rw [hhb, List.take_of_length_le (by omega)]; rfl
          refine x_in ?_
          refine x_norm ?_
          refine wp_seq ?_
          rcases Decidable.em (hb = true) with hHB | hHB
          ·
            obtain rfl : hb = true := hHB
            refine c_reg R8_14_l ?_
            refine q0 p8_14_0 hE (st_move rfl) ?_
            clear hE a; intro a hE
            refine p_nil ?_
            refine x_norm ?_
            refine c_cond (t := true) hE rfl ?_
            refine wp_seq ?_
            rcases Decidable.em (at9 < 0) with hAT | hAT
            ·
              refine c_reg R8_15_l ?_
              refine q0 p8_15_0 hE (st_move rfl) ?_
              clear hE a; intro a hE
              refine q0 p8_15_1 hE (st_lss (b := true) rfl rfl (decide_eq_true hAT)) ?_
              clear hE a; intro a hE
              refine p_nil ?_
              refine x_norm ?_
              refine c_cond (t := true) hE rfl ?_
              refine c_regL R8_16_l ?_
              refine q0 p8_16_0 hE (st_move rfl) ?_
              clear hE a; intro a hE
              refine q0 p8_16_1 hE (st_assign rfl) ?_
              clear hE a; intro a hE
              refine p_nil ?_
              refine x_norm ?_
              refine wp_exit ?_
              refine x_exit ?_
              refine x_in ?_
              refine x_norm ?_
              refine c_regL R8_8_l ?_
              refine q0 p8_8_0 hE (st_move rfl) ?_
              clear hE a; intro a hE
              refine q0 p8_8_1 hE (st_add (z := (i : Int) + 1) rfl rfl (wr_i64 _ (by omega) (by omega))) ?_
              clear hE a; intro a hE
              refine q0 p8_8_2 hE (st_assign rfl) ?_
              clear hE a; intro a hE
              refine p_nil ?_
              refine x_norm ?_
              have hat9 := at_new hat hAT (show ofK (z2.take (min z2.length 10)) (List.getD (toL z0) i zO) = true by rw [hxe24]; exact hof.symm)
              have hn99 : (n9 : Int) = ((without (z2.take (min z2.length 10)) ((toL z0).take (i + 1))).length : Nat) := by rw [without_succ hix, hxe24, if_pos hof.symm, List.append_nil, hn9]
              have hn98 : n9 = (without (z2.take (min z2.length 10)) ((toL z0).take (i + 1))).length := by omega
              exact ⟨i + 1, by omega, (i : Int), n9, En.sub hE ⟨rfl, rfl, rfl, rfl, rfl, rfl, rfl, rfl, rfl, rfl, (by first | rfl | exact congrArg (fun z => some (Value.int .i64 z)) (by omega)), trivial⟩, by omega, hat9, hn98, B_g14, K_0, K_s5, K_s10, K_s13, K_s22⟩
            ·
              refine c_reg R8_15_l ?_
              refine q0 p8_15_0 hE (st_move rfl) ?_
              clear hE a; intro a hE
              refine q0 p8_15_1 hE (st_lss (b := false) rfl rfl (decide_eq_false hAT)) ?_
              clear hE a; intro a hE
              refine p_nil ?_
              refine x_norm ?_
              refine c_cond (t := false) hE rfl ?_
              refine wp_skip ?_
              refine x_norm ?_
              refine wp_exit ?_
              refine x_exit ?_
              refine x_in ?_
              refine x_norm ?_
              refine c_regL R8_8_l ?_
              refine q0 p8_8_0 hE (st_move rfl) ?_
              clear hE a; intro a hE
              refine q0 p8_8_1 hE (st_add (z := (i : Int) + 1) rfl rfl (wr_i64 _ (by omega) (by omega))) ?_
              clear hE a; intro a hE
              refine q0 p8_8_2 hE (st_assign rfl) ?_
              clear hE a; intro a hE
              refine p_nil ?_
              refine x_norm ?_
              have hat9 := at_old hat hAT
              have hn99 : (n9 : Int) = ((without (z2.take (min z2.length 10)) ((toL z0).take (i + 1))).length : Nat) := by rw [without_succ hix, hxe24, if_pos hof.symm, List.append_nil, hn9]
              have hn98 : n9 = (without (z2.take (min z2.length 10)) ((toL z0).take (i + 1))).length := by omega
              exact ⟨i + 1, by omega, at9, n9, En.sub hE ⟨rfl, rfl, rfl, rfl, rfl, rfl, rfl, rfl, rfl, rfl, (by first | rfl | exact congrArg (fun z => some (Value.int .i64 z)) (by omega)), trivial⟩, by omega, hat9, hn98, B_g14, K_0, K_s5, K_s10, K_s13, K_s22⟩
          ·
            obtain rfl : hb = false := by simpa using hHB
            refine c_reg R8_14_l ?_
            refine q0 p8_14_0 hE (st_move rfl) ?_
            clear hE a; intro a hE
            refine p_nil ?_
            refine x_norm ?_
            refine c_cond (t := false) hE rfl ?_
            refine wp_skip ?_
            refine x_norm ?_
            refine wp_seq ?_
            have hwa := without_at hix (show ofK (z2.take (min z2.length 10)) (List.getD (toL z0) i zO) = false by rw [hxe24]; exact hof.symm)
            rw [← hn9, hxe24] at hwa
            refine c_drawS (S := fun W => W.heap[g14]? = some (.cells (([Value.int .i64 y.1, Value.slice Ao11 y.2.1.length qo11] ++ b16 (adr y) ++ [Value.slice To11 y.2.2.2.length co11])).toArray 64 (0, 0)) ∧ True) rfl rfl (listed := #[false, false, false, false, false, false, false, false, false, false, false, false, false, false, false, false, false, false]) rfl ?_
            intro w29 hh hk
            replace B_g14 := kp_blk B_g14 hk (fun h => h)
            replace K_0 := K_0.then_ hk (fun _ h => h.elim)
            replace K_s5 := K_s5.then_ hk (fun _ h => h.elim)
            replace K_s10 := K_s10.then_ hk (fun _ h => h.elim)
            replace K_s13 := K_s13.then_ hk (fun _ h => h.elim)
            replace K_s22 := K_s22.then_ hk (fun _ h => h.elim)
            clear hh hk
            refine d_take (v := Value.int .i64 (n9 : Int)) p8_17_0 ns8_17 (by kernel_rfl) (by kernel_rfl) (fun _ _ _ h => h) hE wn_none rfl ⟨B_g14, trivial⟩ (fun W hS => (st_move rfl)) rfl ?_
            clear hE a; intro a hE
            refine d_take (v := Value.slice A18 ((without (z2.take (min z2.length 10)) (toL z0)).length) c19) p8_17_1 ns8_17 (by kernel_rfl) (by kernel_rfl) (fun _ _ _ h => h) hE wn_none rfl ⟨B_g14, trivial⟩ (fun W hS => (st_move rfl)) rfl ?_
            clear hE a; intro a hE
            refine d_take (v := Value.int .i64 ((without (z2.take (min z2.length 10)) (toL z0)).length : Int)) p8_17_2 ns8_17 (by kernel_rfl) (by kernel_rfl) (fun _ _ _ h => h) hE wn_none rfl ⟨B_g14, trivial⟩ (fun W hS => (st_len Try.underlying58 rfl)) rfl ?_
            clear hE a; intro a hE
            refine d_take (v := Value.bool false) p8_17_3 ns8_17 (by kernel_rfl) (by kernel_rfl) (fun _ _ _ h => h) hE wn_none rfl ⟨B_g14, trivial⟩ (fun W hS => (st_geq (b := false) rfl rfl (decide_eq_false (by omega)))) rfl ?_
            clear hE a; intro a hE
            refine d_take (v := Value.bool false) p8_17_4 ns8_17 (by kernel_rfl) (by kernel_rfl) (fun _ _ _ h => h) hE wn_none rfl ⟨B_g14, trivial⟩ (fun W hS => (st_move rfl)) rfl ?_
            clear hE a; intro a hE
            refine d_take (v := Value.slice A18 ((without (z2.take (min z2.length 10)) (toL z0)).length) c19) p8_17_5 ns8_17 (by kernel_rfl) (by kernel_rfl) (fun _ _ _ h => h) hE (wn_some g8_17_4 rfl rfl) rfl ⟨B_g14, trivial⟩ (fun W hS => (st_move rfl)) rfl ?_
            clear hE a; intro a hE
            refine d_take (v := Value.int .i64 (n9 : Int)) p8_17_6 ns8_17 (by kernel_rfl) (by kernel_rfl) (fun _ _ _ h => h) hE (wn_some g8_17_4 rfl rfl) rfl ⟨B_g14, trivial⟩ (fun W hS => (st_move rfl)) rfl ?_
            clear hE a; intro a hE
            refine d_take (v := Value.int .i64 (n9 : Int)) p8_17_7 ns8_17 (by kernel_rfl) (by kernel_rfl) (fun _ _ _ h => h) hE (wn_some g8_17_4 rfl rfl) rfl ⟨B_g14, trivial⟩ (fun W hS => (st_move rfl)) rfl ?_
            clear hE a; intro a hE
            refine d_take (v := Value.int .i64 ((n9 : Int) + 1)) p8_17_8 ns8_17 (by kernel_rfl) (by kernel_rfl) (fun _ _ _ h => h) hE (wn_some g8_17_4 rfl rfl) rfl ⟨B_g14, trivial⟩ (fun W hS => (st_add (z := (n9 : Int) + 1) rfl rfl (wr_i64 _ (by omega) (by omega)))) rfl ?_
            clear hE a; intro a hE
            refine d_take (v := Value.slice (Option.map (fun z => Addr.add z (n9 * 19)) A18) 1 (c19 - n9)) p8_17_9 ns8_17 (by kernel_rfl) (by kernel_rfl) (fun _ _ _ h => h) hE (wn_some g8_17_4 rfl rfl) rfl ⟨B_g14, trivial⟩ (fun W hS => (st_sliceLH (lo := n9) (hi := n9 + 1) (A' := (Option.map (fun z => Addr.add z (n9 * 19)) A18)) Try.underlying58 tS64 rfl rfl rfl (by omega) (by omega) (by omega) rfl (by rw [if_neg (by omega)]))) rfl ?_
            clear hE a; intro a hE
            refine d_take (v := Value.slice A1 ((toL z0).length) c2) p8_17_10 ns8_17 (by kernel_rfl) (by kernel_rfl) (fun _ _ _ h => h) hE (wn_some g8_17_4 rfl rfl) rfl ⟨B_g14, trivial⟩ (fun W hS => (st_move rfl)) rfl ?_
            clear hE a; intro a hE
            refine d_take (v := Value.int .i64 (i : Int)) p8_17_11 ns8_17 (by kernel_rfl) (by kernel_rfl) (fun _ _ _ h => h) hE (wn_some g8_17_4 rfl rfl) rfl ⟨B_g14, trivial⟩ (fun W hS => (st_move rfl)) rfl ?_
            clear hE a; intro a hE
            refine d_take (v := Value.int .i64 (i : Int)) p8_17_12 ns8_17 (by kernel_rfl) (by kernel_rfl) (fun _ _ _ h => h) hE (wn_some g8_17_4 rfl rfl) rfl ⟨B_g14, trivial⟩ (fun W hS => (st_move rfl)) rfl ?_
            clear hE a; intro a hE
            refine d_take (v := Value.int .i64 ((i : Int) + 1)) p8_17_13 ns8_17 (by kernel_rfl) (by kernel_rfl) (fun _ _ _ h => h) hE (wn_some g8_17_4 rfl rfl) rfl ⟨B_g14, trivial⟩ (fun W hS => (st_add (z := (i : Int) + 1) rfl rfl (wr_i64 _ (by omega) (by omega)))) rfl ?_
            clear hE a; intro a hE
            refine d_take (v := Value.slice (Option.map (fun z => Addr.add z (i * 19)) A1) 1 (c2 - i)) p8_17_14 ns8_17 (by kernel_rfl) (by kernel_rfl) (fun _ _ _ h => h) hE (wn_some g8_17_4 rfl rfl) rfl ⟨B_g14, trivial⟩ (fun W hS => (st_sliceLH (lo := i) (hi := i + 1) (A' := (Option.map (fun z => Addr.add z (i * 19)) A1)) Try.underlying58 tS64 rfl rfl rfl (by omega) (by omega) (by omega) rfl (by rw [if_neg (by omega)]))) rfl ?_
            clear hE a; intro a hE
            refine d_one (by kernel_rfl) rfl (s_call (xs := [Operand.tmp 73, Operand.tmp 78]) (args := [Value.slice (Option.map (fun z => Addr.add z (n9 * 19)) A18) 1 (c19 - n9), Value.slice (Option.map (fun z => Addr.add z (i * 19)) A1) 1 (c2 - i)]) p8_17_15 hE (wn_some g8_17_4 rfl rfl) rfl rfl Try.func37 cl37 (Same_o (Option.map (fun z => Addr.add z (n9 * 19)) A18) (Option.map (fun z => Addr.add z (i * 19)) A1) (c19 - n9) (c2 - i) [(cpV x)] [x] true (lsame_one (osame_cp x)) (fun z hz => by rw [List.mem_singleton.1 hz]; have := hoX _ (getD_mem (show i < (toL z0).length by omega) zO); rw [hxe24] at this; exact this) (fun z hz => by rw [List.mem_singleton.1 hz]; have := hoX _ (getD_mem (show i < (toL z0).length by omega) zO); rw [hxe24] at this; exact this) _ (by have := C_sub (C_to hRf20 K_s22) zO (show n9 < (without (z2.take (min z2.length 10)) (toL z0)).length by omega); rw [hwa.2] at this; exact this) (by have := C_sub (C_to hRf3 K_s5) zO (show i < (toL z0).length by omega); rw [hxe24] at this; exact this) (Nat.le_of_ble_eq_true rfl)) ?_)
            rintro e w30 ⟨rfl, hk⟩
            replace B_g14 := kp_blk B_g14 hk (fun h => h)
            replace K_0 := K_0.then_ hk (fun _ h => h.elim)
            replace K_s5 := K_s5.then_ hk (fun _ h => h.elim)
            replace K_s10 := K_s10.then_ hk (fun _ h => h.elim)
            replace K_s13 := K_s13.then_ hk (fun _ h => h.elim)
            replace K_s22 := K_s22.then_ hk (fun _ h => h.elim)
            refine ⟨_, rfl, ?_⟩
            clear hE a; intro a hE
            refine ⟨⟨B_g14, trivial⟩, ?_⟩
            refine d_take (v := Value.bool false) p8_17_16 ns8_17 (by kernel_rfl) (by kernel_rfl) (fun _ _ _ h => h) hE (wn_some g8_17_4 rfl rfl) rfl ⟨B_g14, trivial⟩ (fun W hS => (st_not rfl rfl)) rfl ?_
            clear hE a; intro a hE
            refine d_take (v := Value.bool false) p8_17_17 ns8_17 (by kernel_rfl) (by kernel_rfl) (fun _ _ _ h => h) hE wn_none rfl ⟨B_g14, trivial⟩ (fun W hS => (st_pick rfl rfl)) rfl ?_
            clear hE a; intro a hE
            refine d_end (by kernel_rfl) ?_
            refine x_norm ?_
            refine c_cond (t := false) hE rfl ?_
            refine wp_skip ?_
            refine x_norm ?_
            refine c_regL R8_19_l ?_
            refine q0 p8_19_0 hE (st_move rfl) ?_
            clear hE a; intro a hE
            refine q0 p8_19_1 hE (st_add (z := (n9 : Int) + 1) rfl rfl (wr_i64 _ (by omega) (by omega))) ?_
            clear hE a; intro a hE
            refine q0 p8_19_2 hE (st_assign rfl) ?_
            clear hE a; intro a hE
            refine p_nil ?_
            refine x_normB ?_
            refine x_norm ?_
            refine c_regL R8_8_l ?_
            refine q0 p8_8_0 hE (st_move rfl) ?_
            clear hE a; intro a hE
            refine q0 p8_8_1 hE (st_add (z := (i : Int) + 1) rfl rfl (wr_i64 _ (by omega) (by omega))) ?_
            clear hE a; intro a hE
            refine q0 p8_8_2 hE (st_assign rfl) ?_
            clear hE a; intro a hE
            refine p_nil ?_
            refine x_norm ?_
            have hat9 := at_no hat (show ofK (z2.take (min z2.length 10)) (List.getD (toL z0) i zO) = false by rw [hxe24]; exact hof.symm)
            have hn99 : ((n9 + 1 : Nat) : Int) = ((without (z2.take (min z2.length 10)) ((toL z0).take (i + 1))).length : Nat) := by rw [without_succ hix, hxe24, if_neg (by rw [← hof]; decide), List.length_append, hn9]; rfl
            have hn98 : (n9 + 1) = (without (z2.take (min z2.length 10)) ((toL z0).take (i + 1))).length := by omega
            exact ⟨i + 1, by omega, at9, (n9 + 1), En.sub hE ⟨rfl, rfl, rfl, rfl, rfl, rfl, rfl, rfl, rfl, rfl, (by first | rfl | exact congrArg (fun z => some (Value.int .i64 z)) (by omega)), trivial⟩, by omega, hat9, hn98, B_g14, K_0, K_s5, K_s10, K_s13, K_s22⟩
    ·
      refine c_reg R8_7_l ?_
      refine q0 p8_7_0 hE (st_move rfl) ?_
      clear hE a; intro a hE
      refine q0 p8_7_1 hE (st_move rfl) ?_
      clear hE a; intro a hE
      refine q0 p8_7_2 hE (st_len Try.underlying58 rfl) ?_
      clear hE a; intro a hE
      refine q0 p8_7_3 hE (st_lss (b := false) rfl rfl (decide_eq_false hK1)) ?_
      clear hE a; intro a hE
      refine p_nil ?_
      refine x_norm ?_
      refine c_cond (t := false) hE rfl ?_
      refine wp_exit ?_
      refine x_exit ?_
      refine x_exit ?_
      have hii : i = (toL z0).length := by omega
      subst hii
      rw [List.take_length] at hn9
      obtain rfl := at_eq hAt hat
      refine x_in ?_
      refine x_norm ?_
      refine wp_seq ?_
      rcases Decidable.em (0 ≤ v) with hV | hV
      ·
        have hvb := at_bd hAt
        rw [decide_eq_true hV] at hE
        have hv9 : v = ((v.toNat : Nat) : Int) := by omega
        refine c_drawS (S := fun W => W.heap[g14]? = some (.cells (([Value.int .i64 y.1, Value.slice Ao11 y.2.1.length qo11] ++ b16 (adr y) ++ [Value.slice To11 y.2.2.2.length co11])).toArray 64 (0, 0)) ∧ True) rfl rfl (listed := #[false, false, false, false, false, false, false, false, false, false, false, false, false, false, false, false, false, false, false, false, false, false, false, false, false]) rfl ?_
        intro w31 hh hk
        replace B_g14 := kp_blk B_g14 hk (fun h => h)
        replace K_0 := K_0.then_ hk (fun _ h => h.elim)
        replace K_s5 := K_s5.then_ hk (fun _ h => h.elim)
        replace K_s10 := K_s10.then_ hk (fun _ h => h.elim)
        replace K_s13 := K_s13.then_ hk (fun _ h => h.elim)
        replace K_s22 := K_s22.then_ hk (fun _ h => h.elim)
        clear hh hk
        refine d_take (v := Value.int .i64 (n9 : Int)) p8_20_0 ns8_20 (by kernel_rfl) (by kernel_rfl) (fun _ _ _ h => h) hE wn_none rfl ⟨B_g14, trivial⟩ (fun W hS => (st_move rfl)) rfl ?_
        clear hE a; intro a hE
        refine d_take (v := Value.slice A18 ((without (z2.take (min z2.length 10)) (toL z0)).length) c19) p8_20_1 ns8_20 (by kernel_rfl) (by kernel_rfl) (fun _ _ _ h => h) hE wn_none rfl ⟨B_g14, trivial⟩ (fun W hS => (st_move rfl)) rfl ?_
        clear hE a; intro a hE
        refine d_take (v := Value.int .i64 ((without (z2.take (min z2.length 10)) (toL z0)).length : Int)) p8_20_2 ns8_20 (by kernel_rfl) (by kernel_rfl) (fun _ _ _ h => h) hE wn_none rfl ⟨B_g14, trivial⟩ (fun W hS => (st_len Try.underlying58 rfl)) rfl ?_
        clear hE a; intro a hE
        refine d_take (v := Value.bool false) p8_20_3 ns8_20 (by kernel_rfl) (by kernel_rfl) (fun _ _ _ h => h) hE wn_none rfl ⟨B_g14, trivial⟩ (fun W hS => (st_neq (b := false) rfl rfl (by simp; omega))) rfl ?_
        clear hE a; intro a hE
        refine d_take (v := Value.bool false) p8_20_4 ns8_20 (by kernel_rfl) (by kernel_rfl) (fun _ _ _ h => h) hE wn_none rfl ⟨B_g14, trivial⟩ (fun W hS => (st_move rfl)) rfl ?_
        clear hE a; intro a hE
        refine d_take (v := Value.bool true) p8_20_5 ns8_20 (by kernel_rfl) (by kernel_rfl) (fun _ _ _ h => h) hE (wn_some g8_20_4 rfl rfl) rfl ⟨B_g14, trivial⟩ (fun W hS => (st_move rfl)) rfl ?_
        clear hE a; intro a hE
        refine d_take (v := Value.int .i64 v) p8_20_6 ns8_20 (by kernel_rfl) (by kernel_rfl) (fun _ _ _ h => h) hE (wn_some g8_20_4 rfl rfl) rfl ⟨B_g14, trivial⟩ (fun W hS => (st_move rfl)) rfl ?_
        clear hE a; intro a hE
        refine d_take (v := Value.bool true) p8_20_7 ns8_20 (by kernel_rfl) (by kernel_rfl) (fun _ _ _ h => h) hE (wn_some g8_20_4 rfl rfl) rfl ⟨B_g14, trivial⟩ (fun W hS => (st_geq (b := true) rfl rfl (decide_eq_true hV))) rfl ?_
        clear hE a; intro a hE
        refine d_take (v := Value.bool false) p8_20_8 ns8_20 (by kernel_rfl) (by kernel_rfl) (fun _ _ _ h => h) hE (wn_some g8_20_4 rfl rfl) rfl ⟨B_g14, trivial⟩ (fun W hS => (st_neqB (b := false) Try.underlying4 rfl rfl rfl)) rfl ?_
        clear hE a; intro a hE
        refine d_take (v := Value.bool false) p8_20_9 ns8_20 (by kernel_rfl) (by kernel_rfl) (fun _ _ _ h => h) hE wn_none rfl ⟨B_g14, trivial⟩ (fun W hS => (st_pick rfl rfl)) rfl ?_
        clear hE a; intro a hE
        refine d_take (v := Value.bool false) p8_20_10 ns8_20 (by kernel_rfl) (by kernel_rfl) (fun _ _ _ h => h) hE wn_none rfl ⟨B_g14, trivial⟩ (fun W hS => (st_move rfl)) rfl ?_
        clear hE a; intro a hE
        refine d_take (v := Value.int .i64 v) p8_20_11 ns8_20 (by kernel_rfl) (by kernel_rfl) (fun _ _ _ h => h) hE (wn_some g8_20_10 rfl rfl) rfl ⟨B_g14, trivial⟩ (fun W hS => (st_move rfl)) rfl ?_
        clear hE a; intro a hE
        refine d_take (v := Value.bool true) p8_20_12 ns8_20 (by kernel_rfl) (by kernel_rfl) (fun _ _ _ h => h) hE (wn_some g8_20_10 rfl rfl) rfl ⟨B_g14, trivial⟩ (fun W hS => (st_geq (b := true) rfl rfl (decide_eq_true hV))) rfl ?_
        clear hE a; intro a hE
        refine d_take (v := Value.bool true) p8_20_13 ns8_20 (by kernel_rfl) (by kernel_rfl) (fun _ _ _ h => h) hE (wn_some g8_20_10 rfl rfl) rfl ⟨B_g14, trivial⟩ (fun W hS => (st_move rfl)) rfl ?_
        clear hE a; intro a hE
        refine d_take (v := Value.agg (([Value.int .i64 y.1, Value.slice Ao11 y.2.1.length qo11] ++ b16 (adr y) ++ [Value.slice To11 y.2.2.2.length co11])).toArray) p8_20_14 ns8_20 (by kernel_rfl) (by kernel_rfl) (fun _ _ _ h => h) hE (wn_some g8_20_13 rfl rfl) rfl ⟨B_g14, trivial⟩ (fun W hS => (st_loadN (off := 0) (k := 19) (vs := ([Value.int .i64 y.1, Value.slice Ao11 y.2.1.length qo11] ++ b16 (adr y) ++ [Value.slice To11 y.2.2.2.length co11])) tA64 tS64 rfl hS.1 rfl rfl)) rfl ?_
        clear hE a; intro a hE
        refine d_take (v := Value.slice A1 ((toL z0).length) c2) p8_20_16 ns8_20 (by kernel_rfl) (by kernel_rfl) (fun _ _ _ h => h) hE (wn_some g8_20_13 rfl rfl) rfl ⟨B_g14, trivial⟩ (fun W hS => (st_move rfl)) rfl ?_
        clear hE a; intro a hE
        refine d_take (v := Value.int .i64 v) p8_20_17 ns8_20 (by kernel_rfl) (by kernel_rfl) (fun _ _ _ h => h) hE (wn_some g8_20_13 rfl rfl) rfl ⟨B_g14, trivial⟩ (fun W hS => (st_move rfl)) rfl ?_
        clear hE a; intro a hE
        refine d_take (v := Value.int .i64 v) p8_20_18 ns8_20 (by kernel_rfl) (by kernel_rfl) (fun _ _ _ h => h) hE (wn_some g8_20_13 rfl rfl) rfl ⟨B_g14, trivial⟩ (fun W hS => (st_move rfl)) rfl ?_
        clear hE a; intro a hE
        refine d_take (v := Value.int .i64 (v + 1)) p8_20_19 ns8_20 (by kernel_rfl) (by kernel_rfl) (fun _ _ _ h => h) hE (wn_some g8_20_13 rfl rfl) rfl ⟨B_g14, trivial⟩ (fun W hS => (st_add (z := v + 1) rfl rfl (wr_i64 _ (by omega) (by omega)))) rfl ?_
        clear hE a; intro a hE
        refine d_take (v := Value.slice (Option.map (fun z => Addr.add z (v.toNat * 19)) A1) 1 (c2 - v.toNat)) p8_20_20 ns8_20 (by kernel_rfl) (by kernel_rfl) (fun _ _ _ h => h) hE (wn_some g8_20_13 rfl rfl) rfl ⟨B_g14, trivial⟩ (fun W hS => (st_sliceLH (lo := v.toNat) (hi := v.toNat + 1) (A' := (Option.map (fun z => Addr.add z (v.toNat * 19)) A1)) Try.underlying58 tS64 rfl (by rw [hv9]; rfl) (by rw [hv9]; rfl) (by omega) (by omega) (by omega) rfl (by rw [if_neg (by omega)]))) rfl ?_
        clear hE a; intro a hE
        refine d_one (by kernel_rfl) rfl (s_row (xs := [(0, Operand.tmp 98)]) (vs := [(0, Value.agg (([Value.int .i64 y.1, Value.slice Ao11 y.2.1.length qo11] ++ b16 (adr y) ++ [Value.slice To11 y.2.2.2.length co11])).toArray)]) (cs := (([Value.int .i64 y.1, Value.slice Ao11 y.2.1.length qo11] ++ b16 (adr y) ++ [Value.slice To11 y.2.2.2.length co11])).toArray) p8_20_15 hE (wn_some g8_20_13 rfl rfl) rfl Try.underlying58 rfl (by kernel_rfl) ?_)
        clear hE a; intro g32 w33 z34 B_g32 hk a hE
        have n_g14_g32 : g14 ≠ g32 := ne_new B_g14 z34
        have z_0_g32 := Nat.le_trans K_0.kept.1 z34
        have z_s5_g32 := Nat.le_trans K_s5.kept.1 z34
        have z_s10_g32 := Nat.le_trans K_s10.kept.1 z34
        have z_s13_g32 := Nat.le_trans K_s13.kept.1 z34
        have z_s22_g32 := Nat.le_trans K_s22.kept.1 z34
        replace B_g14 := kp_blk B_g14 hk (fun h => h)
        replace K_0 := K_0.then_ hk (fun _ h => h.elim)
        replace K_s5 := K_s5.then_ hk (fun _ h => h.elim)
        replace K_s10 := K_s10.then_ hk (fun _ h => h.elim)
        replace K_s13 := K_s13.then_ hk (fun _ h => h.elim)
        replace K_s22 := K_s22.then_ hk (fun _ h => h.elim)
        clear hk
        refine ⟨⟨B_g14, trivial⟩, ?_⟩
        refine d_one (by kernel_rfl) rfl (s_call (xs := [Operand.tmp 99, Operand.tmp 104]) (args := [Value.slice (some ⟨g32, 0, none⟩) 1 1, Value.slice (Option.map (fun z => Addr.add z (v.toNat * 19)) A1) 1 (c2 - v.toNat)]) p8_20_21 hE (wn_some g8_20_13 rfl rfl) rfl rfl Try.func37 cl37 (Same_o (some ⟨g32, 0, none⟩) (Option.map (fun z => Addr.add z (v.toNat * 19)) A1) 1 (c2 - v.toNat) [(cpV y)] [(List.getD (toL z0) v.toNat zO)] true (lsame_one (by rw [← hyv hV]; exact osame_cp y)) (fun z hz => by rw [List.mem_singleton.1 hz, hyv hV]; exact hoX (List.getD (toL z0) v.toNat zO) (getD_mem (show v.toNat < (toL z0).length by omega) zO)) (fun z hz => by rw [List.mem_singleton.1 hz]; exact hoX _ (getD_mem (show v.toNat < (toL z0).length by omega) zO)) _ (C_one (d := dO) B_g32 (opt_y y rfl rfl hlo11 hmo11 (Fio11 _ K_s13) (Fto11 _ K_s13))) (by have := C_sub (C_to hRf3 K_s5) zO (show v.toNat < (toL z0).length by omega); exact this) (Nat.le_of_ble_eq_true rfl)) ?_)
        rintro e w35 ⟨rfl, hk⟩
        replace B_g14 := kp_blk B_g14 hk (fun h => h)
        replace B_g32 := kp_blk B_g32 hk (fun h => h)
        replace K_0 := K_0.then_ hk (fun _ h => h.elim)
        replace K_s5 := K_s5.then_ hk (fun _ h => h.elim)
        replace K_s10 := K_s10.then_ hk (fun _ h => h.elim)
        replace K_s13 := K_s13.then_ hk (fun _ h => h.elim)
        replace K_s22 := K_s22.then_ hk (fun _ h => h.elim)
        refine ⟨_, rfl, ?_⟩
        clear hE a; intro a hE
        refine ⟨⟨B_g14, trivial⟩, ?_⟩
        refine d_take (v := Value.bool false) p8_20_22 ns8_20 (by kernel_rfl) (by kernel_rfl) (fun _ _ _ h => h) hE (wn_some g8_20_13 rfl rfl) rfl ⟨B_g14, trivial⟩ (fun W hS => (st_not rfl rfl)) rfl ?_
        clear hE a; intro a hE
        refine d_take (v := Value.bool false) p8_20_23 ns8_20 (by kernel_rfl) (by kernel_rfl) (fun _ _ _ h => h) hE (wn_some g8_20_10 rfl rfl) rfl ⟨B_g14, trivial⟩ (fun W hS => (st_pick rfl rfl)) rfl ?_
        clear hE a; intro a hE
        refine d_take (v := Value.bool false) p8_20_24 ns8_20 (by kernel_rfl) (by kernel_rfl) (fun _ _ _ h => h) hE wn_none rfl ⟨B_g14, trivial⟩ (fun W hS => (st_pick rfl rfl)) rfl ?_
        clear hE a; intro a hE
        refine d_end (by kernel_rfl) ?_
        refine x_norm ?_
        refine c_cond (t := false) hE rfl ?_
        refine wp_skip ?_
        refine x_norm ?_
        refine c_reg R8_22_l ?_
        refine p_cons (s_call (xs := []) (args := []) p8_22_0 hE wn_none rfl rfl Try.func34 cl34 (known_any  _) ?_)
        rintro e w36 ⟨rfl, hk⟩
        replace B_g14 := kp_blk B_g14 hk (fun h => h)
        replace B_g32 := kp_blk B_g32 hk (fun h => h)
        replace K_0 := K_0.then_ hk (fun _ h => h.elim)
        replace K_s5 := K_s5.then_ hk (fun _ h => h.elim)
        replace K_s10 := K_s10.then_ hk (fun _ h => h.elim)
        replace K_s13 := K_s13.then_ hk (fun _ h => h.elim)
        replace K_s22 := K_s22.then_ hk (fun _ h => h.elim)
        refine ⟨_, rfl, ?_⟩
        clear hE a; intro a hE
        refine q0 p8_22_1 hE (st_move rfl) ?_
        clear hE a; intro a hE
        refine p_cons (s_still p8_22_2 hE (wn_some g8_22_1 rfl rfl) rfl (st_move rfl) ?_)
        clear hE a; intro a hE
        refine p_cons (s_still p8_22_3 hE (wn_some g8_22_1 rfl rfl) rfl (st_move rfl) ?_)
        clear hE a; intro a hE
        refine p_cons (s_call (xs := [Operand.tmp 111, Operand.tmp 112]) (args := [Value.slice A1 ((toL z0).length) c2, Value.slice A6 ((toL z1).length) c7]) p8_22_4 hE (wn_some g8_22_1 rfl rfl) rfl rfl Try.func37 cl37 (Same_o A1 A6 c2 c7 (toL z0) (toL z1) (lsame (toL z0) (toL z1)) rfl hoX hoY _ (C_to hRf3 K_s5) (C_to hRf8 K_s10) (by omega)) ?_)
        rintro e w37 ⟨rfl, hk⟩
        replace B_g14 := kp_blk B_g14 hk (fun h => h)
        replace B_g32 := kp_blk B_g32 hk (fun h => h)
        replace K_0 := K_0.then_ hk (fun _ h => h.elim)
        replace K_s5 := K_s5.then_ hk (fun _ h => h.elim)
        replace K_s10 := K_s10.then_ hk (fun _ h => h.elim)
        replace K_s13 := K_s13.then_ hk (fun _ h => h.elim)
        replace K_s22 := K_s22.then_ hk (fun _ h => h.elim)
        refine ⟨_, rfl, ?_⟩
        clear hE a; intro a hE
        refine p_cons (s_still p8_22_5 hE (wn_some g8_22_1 rfl rfl) rfl (st_move rfl) ?_)
        clear hE a; intro a hE
        refine p_cons (s_call (xs := [Operand.tmp 114]) (args := [Value.slice A1 ((toL z0).length) c2]) p8_22_6 hE (wn_some g8_22_1 rfl rfl) rfl rfl Try.func39 cl39 (of_n A1 c2 (toL z0) (ofl_to _) _ (C_to hRf3 K_s5) hcapf3 (by have := toL_len z0; have := toL_len z1; omega)) ?_)
        rintro e w41 ⟨A38, c39, rfl, hcapf40, hF9, hk⟩
        replace B_g14 := kp_blk B_g14 hk (fun h => h)
        replace B_g32 := kp_blk B_g32 hk (fun h => h)
        replace K_0 := K_0.then_ hk (fun _ h => h.elim)
        replace K_s5 := K_s5.then_ hk (fun _ h => h.elim)
        replace K_s10 := K_s10.then_ hk (fun _ h => h.elim)
        replace K_s13 := K_s13.then_ hk (fun _ h => h.elim)
        replace K_s22 := K_s22.then_ hk (fun _ h => h.elim)
        have K_s42 := Kp.refl w41 (fun _ => False)
        have hRf40 := hF9 _ (Kp.refl _ _)
        refine ⟨_, rfl, ?_⟩
        clear hE a; intro a hE
        refine p_cons (s_still p8_22_7 hE (wn_some g8_22_1 rfl rfl) rfl (st_move rfl) ?_)
        clear hE a; intro a hE
        refine p_cons (s_call (xs := [Operand.tmp 116]) (args := [Value.slice A6 ((toL z1).length) c7]) p8_22_8 hE (wn_some g8_22_1 rfl rfl) rfl rfl Try.func39 cl39 (of_n A6 c7 (toL z1) (ofl_to _) _ (C_to hRf8 K_s10) hcapf8 (by have := toL_len z0; have := toL_len z1; omega)) ?_)
        rintro e w46 ⟨A43, c44, rfl, hcapf45, hF9, hk⟩
        replace B_g14 := kp_blk B_g14 hk (fun h => h)
        replace B_g32 := kp_blk B_g32 hk (fun h => h)
        replace K_0 := K_0.then_ hk (fun _ h => h.elim)
        replace K_s5 := K_s5.then_ hk (fun _ h => h.elim)
        replace K_s10 := K_s10.then_ hk (fun _ h => h.elim)
        replace K_s13 := K_s13.then_ hk (fun _ h => h.elim)
        replace K_s22 := K_s22.then_ hk (fun _ h => h.elim)
        replace K_s42 := K_s42.then_ hk (fun _ h => h.elim)
        have K_s47 := Kp.refl w46 (fun _ => False)
        have hRf45 := hF9 _ (Kp.refl _ _)
        refine ⟨_, rfl, ?_⟩
        clear hE a; intro a hE
        refine p_cons (s_call (xs := [Operand.tmp 115, Operand.tmp 117]) (args := [Value.slice A38 ((toL z0).length) c39, Value.slice A43 ((toL z1).length) c44]) p8_22_9 hE (wn_some g8_22_1 rfl rfl) rfl rfl Try.func38 cl38 (All_o A38 A43 c39 c44 (toL z0) (toL z1) (lsame (toL z0) (toL z1)) rfl hoX hoY _ (C_to hRf40 K_s42) (C_to hRf45 K_s47) (by omega)) ?_)
        rintro e w48 ⟨rfl, hk⟩
        replace B_g14 := kp_blk B_g14 hk (fun h => h)
        replace B_g32 := kp_blk B_g32 hk (fun h => h)
        replace K_0 := K_0.then_ hk (fun _ h => h.elim)
        replace K_s5 := K_s5.then_ hk (fun _ h => h.elim)
        replace K_s10 := K_s10.then_ hk (fun _ h => h.elim)
        replace K_s13 := K_s13.then_ hk (fun _ h => h.elim)
        replace K_s22 := K_s22.then_ hk (fun _ h => h.elim)
        replace K_s42 := K_s42.then_ hk (fun _ h => h.elim)
        replace K_s47 := K_s47.then_ hk (fun _ h => h.elim)
        refine ⟨_, rfl, ?_⟩
        clear hE a; intro a hE
        refine p_cons (s_still p8_22_10 hE (wn_some g8_22_1 rfl rfl) rfl (st_eqlB (b := true) Try.underlying4 rfl rfl (by simp)) ?_)
        clear hE a; intro a hE
        refine q0 p8_22_11 hE (st_pick rfl rfl) ?_
        clear hE a; intro a hE
        refine q0 p8_22_12 hE (st_move rfl) ?_
        clear hE a; intro a hE
        refine p_cons (s_still p8_22_13 hE (wn_some g8_22_12 rfl rfl) rfl (st_move rfl) ?_)
        clear hE a; intro a hE
        refine p_cons (s_still p8_22_14 hE (wn_some g8_22_12 rfl rfl) rfl (st_move rfl) ?_)
        clear hE a; intro a hE
        refine p_cons (s_call (xs := [Operand.tmp 122, Operand.tmp 123]) (args := [Value.slice A1 ((toL z0).length) c2, Value.slice A1 ((toL z0).length) c2]) p8_22_15 hE (wn_some g8_22_12 rfl rfl) rfl rfl Try.func37 cl37 (Same_o A1 A1 c2 c2 (toL z0) (toL z0) true (lsame_refl _) hoX hoX _ (C_to hRf3 K_s5) (C_to hRf3 K_s5) (by omega)) ?_)
        rintro e w49 ⟨rfl, hk⟩
        replace B_g14 := kp_blk B_g14 hk (fun h => h)
        replace B_g32 := kp_blk B_g32 hk (fun h => h)
        replace K_0 := K_0.then_ hk (fun _ h => h.elim)
        replace K_s5 := K_s5.then_ hk (fun _ h => h.elim)
        replace K_s10 := K_s10.then_ hk (fun _ h => h.elim)
        replace K_s13 := K_s13.then_ hk (fun _ h => h.elim)
        replace K_s22 := K_s22.then_ hk (fun _ h => h.elim)
        replace K_s42 := K_s42.then_ hk (fun _ h => h.elim)
        replace K_s47 := K_s47.then_ hk (fun _ h => h.elim)
        refine ⟨_, rfl, ?_⟩
        clear hE a; intro a hE
        refine q0 p8_22_16 hE (st_pick rfl rfl) ?_
        clear hE a; intro a hE
        refine q0 p8_22_17 hE (st_assign rfl) ?_
        clear hE a; intro a hE
        refine p_nil ?_
        refine x_norm ?_
        refine wp_ret ?_
        refine ret_one (v := Value.bool true) rfl hE (.tmp rfl .nil) ?_
        exact ⟨rfl, K_0.to (Nat.le_refl _) (fun _ h => h.elim)⟩
      ·
        have hvb := at_bd hAt
        rw [decide_eq_false hV] at hE
        refine c_drawS (S := fun W => W.heap[g14]? = some (.cells (([Value.int .i64 y.1, Value.slice Ao11 y.2.1.length qo11] ++ b16 (adr y) ++ [Value.slice To11 y.2.2.2.length co11])).toArray 64 (0, 0)) ∧ True) rfl rfl (listed := #[false, false, false, false, false, false, false, false, false, false, false, false, false, false, false, false, false, false, false, false, false, false, false, false, false]) rfl ?_
        intro w50 hh hk
        replace B_g14 := kp_blk B_g14 hk (fun h => h)
        replace K_0 := K_0.then_ hk (fun _ h => h.elim)
        replace K_s5 := K_s5.then_ hk (fun _ h => h.elim)
        replace K_s10 := K_s10.then_ hk (fun _ h => h.elim)
        replace K_s13 := K_s13.then_ hk (fun _ h => h.elim)
        replace K_s22 := K_s22.then_ hk (fun _ h => h.elim)
        clear hh hk
        refine d_take (v := Value.int .i64 (n9 : Int)) p8_20_0 ns8_20 (by kernel_rfl) (by kernel_rfl) (fun _ _ _ h => h) hE wn_none rfl ⟨B_g14, trivial⟩ (fun W hS => (st_move rfl)) rfl ?_
        clear hE a; intro a hE
        refine d_take (v := Value.slice A18 ((without (z2.take (min z2.length 10)) (toL z0)).length) c19) p8_20_1 ns8_20 (by kernel_rfl) (by kernel_rfl) (fun _ _ _ h => h) hE wn_none rfl ⟨B_g14, trivial⟩ (fun W hS => (st_move rfl)) rfl ?_
        clear hE a; intro a hE
        refine d_take (v := Value.int .i64 ((without (z2.take (min z2.length 10)) (toL z0)).length : Int)) p8_20_2 ns8_20 (by kernel_rfl) (by kernel_rfl) (fun _ _ _ h => h) hE wn_none rfl ⟨B_g14, trivial⟩ (fun W hS => (st_len Try.underlying58 rfl)) rfl ?_
        clear hE a; intro a hE
        refine d_take (v := Value.bool false) p8_20_3 ns8_20 (by kernel_rfl) (by kernel_rfl) (fun _ _ _ h => h) hE wn_none rfl ⟨B_g14, trivial⟩ (fun W hS => (st_neq (b := false) rfl rfl (by simp; omega))) rfl ?_
        clear hE a; intro a hE
        refine d_take (v := Value.bool false) p8_20_4 ns8_20 (by kernel_rfl) (by kernel_rfl) (fun _ _ _ h => h) hE wn_none rfl ⟨B_g14, trivial⟩ (fun W hS => (st_move rfl)) rfl ?_
        clear hE a; intro a hE
        refine d_take (v := Value.bool false) p8_20_5 ns8_20 (by kernel_rfl) (by kernel_rfl) (fun _ _ _ h => h) hE (wn_some g8_20_4 rfl rfl) rfl ⟨B_g14, trivial⟩ (fun W hS => (st_move rfl)) rfl ?_
        clear hE a; intro a hE
        refine d_take (v := Value.int .i64 v) p8_20_6 ns8_20 (by kernel_rfl) (by kernel_rfl) (fun _ _ _ h => h) hE (wn_some g8_20_4 rfl rfl) rfl ⟨B_g14, trivial⟩ (fun W hS => (st_move rfl)) rfl ?_
        clear hE a; intro a hE
        refine d_take (v := Value.bool false) p8_20_7 ns8_20 (by kernel_rfl) (by kernel_rfl) (fun _ _ _ h => h) hE (wn_some g8_20_4 rfl rfl) rfl ⟨B_g14, trivial⟩ (fun W hS => (st_geq (b := false) rfl rfl (decide_eq_false hV))) rfl ?_
        clear hE a; intro a hE
        refine d_take (v := Value.bool false) p8_20_8 ns8_20 (by kernel_rfl) (by kernel_rfl) (fun _ _ _ h => h) hE (wn_some g8_20_4 rfl rfl) rfl ⟨B_g14, trivial⟩ (fun W hS => (st_neqB (b := false) Try.underlying4 rfl rfl rfl)) rfl ?_
        clear hE a; intro a hE
        refine d_take (v := Value.bool false) p8_20_9 ns8_20 (by kernel_rfl) (by kernel_rfl) (fun _ _ _ h => h) hE wn_none rfl ⟨B_g14, trivial⟩ (fun W hS => (st_pick rfl rfl)) rfl ?_
        clear hE a; intro a hE
        refine d_take (v := Value.bool false) p8_20_10 ns8_20 (by kernel_rfl) (by kernel_rfl) (fun _ _ _ h => h) hE wn_none rfl ⟨B_g14, trivial⟩ (fun W hS => (st_move rfl)) rfl ?_
        clear hE a; intro a hE
        refine d_take (v := Value.int .i64 v) p8_20_11 ns8_20 (by kernel_rfl) (by kernel_rfl) (fun _ _ _ h => h) hE (wn_some g8_20_10 rfl rfl) rfl ⟨B_g14, trivial⟩ (fun W hS => (st_move rfl)) rfl ?_
        clear hE a; intro a hE
        refine d_take (v := Value.bool false) p8_20_12 ns8_20 (by kernel_rfl) (by kernel_rfl) (fun _ _ _ h => h) hE (wn_some g8_20_10 rfl rfl) rfl ⟨B_g14, trivial⟩ (fun W hS => (st_geq (b := false) rfl rfl (decide_eq_false hV))) rfl ?_
        clear hE a; intro a hE
        refine d_take (v := Value.bool false) p8_20_13 ns8_20 (by kernel_rfl) (by kernel_rfl) (fun _ _ _ h => h) hE (wn_some g8_20_10 rfl rfl) rfl ⟨B_g14, trivial⟩ (fun W hS => (st_move rfl)) rfl ?_
        clear hE a; intro a hE
        refine d_skip p8_20_14 ns8_20 (by kernel_rfl) (by kernel_rfl) (fun _ _ _ h => h) hE (wn_some g8_20_13 rfl rfl) rfl ⟨B_g14, trivial⟩ rfl ?_
        clear hE a; intro a hE
        refine d_skip p8_20_15 ns8_20 (by kernel_rfl) (by kernel_rfl) (fun _ _ _ h => h) hE (wn_some g8_20_13 rfl rfl) rfl ⟨B_g14, trivial⟩ rfl ?_
        clear hE a; intro a hE
        refine d_skip p8_20_16 ns8_20 (by kernel_rfl) (by kernel_rfl) (fun _ _ _ h => h) hE (wn_some g8_20_13 rfl rfl) rfl ⟨B_g14, trivial⟩ rfl ?_
        clear hE a; intro a hE
        refine d_skip p8_20_17 ns8_20 (by kernel_rfl) (by kernel_rfl) (fun _ _ _ h => h) hE (wn_some g8_20_13 rfl rfl) rfl ⟨B_g14, trivial⟩ rfl ?_
        clear hE a; intro a hE
        refine d_skip p8_20_18 ns8_20 (by kernel_rfl) (by kernel_rfl) (fun _ _ _ h => h) hE (wn_some g8_20_13 rfl rfl) rfl ⟨B_g14, trivial⟩ rfl ?_
        clear hE a; intro a hE
        refine d_skip p8_20_19 ns8_20 (by kernel_rfl) (by kernel_rfl) (fun _ _ _ h => h) hE (wn_some g8_20_13 rfl rfl) rfl ⟨B_g14, trivial⟩ rfl ?_
        clear hE a; intro a hE
        refine d_skip p8_20_20 ns8_20 (by kernel_rfl) (by kernel_rfl) (fun _ _ _ h => h) hE (wn_some g8_20_13 rfl rfl) rfl ⟨B_g14, trivial⟩ rfl ?_
        clear hE a; intro a hE
        refine d_skip p8_20_21 ns8_20 (by kernel_rfl) (by kernel_rfl) (fun _ _ _ h => h) hE (wn_some g8_20_13 rfl rfl) rfl ⟨B_g14, trivial⟩ rfl ?_
        clear hE a; intro a hE
        refine d_skip p8_20_22 ns8_20 (by kernel_rfl) (by kernel_rfl) (fun _ _ _ h => h) hE (wn_some g8_20_13 rfl rfl) rfl ⟨B_g14, trivial⟩ rfl ?_
        clear hE a; intro a hE
        refine d_take (v := Value.bool false) p8_20_23 ns8_20 (by kernel_rfl) (by kernel_rfl) (fun _ _ _ h => h) hE (wn_some g8_20_10 rfl rfl) rfl ⟨B_g14, trivial⟩ (fun W hS => (st_pick rfl rfl)) rfl ?_
        clear hE a; intro a hE
        refine d_take (v := Value.bool false) p8_20_24 ns8_20 (by kernel_rfl) (by kernel_rfl) (fun _ _ _ h => h) hE wn_none rfl ⟨B_g14, trivial⟩ (fun W hS => (st_pick rfl rfl)) rfl ?_
        clear hE a; intro a hE
        refine d_end (by kernel_rfl) ?_
        refine x_norm ?_
        refine c_cond (t := false) hE rfl ?_
        refine wp_skip ?_
        refine x_norm ?_
        refine c_reg R8_22_l ?_
        refine p_cons (s_call (xs := []) (args := []) p8_22_0 hE wn_none rfl rfl Try.func34 cl34 (known_any  _) ?_)
        rintro e w51 ⟨rfl, hk⟩
        replace B_g14 := kp_blk B_g14 hk (fun h => h)
        replace K_0 := K_0.then_ hk (fun _ h => h.elim)
        replace K_s5 := K_s5.then_ hk (fun _ h => h.elim)
        replace K_s10 := K_s10.then_ hk (fun _ h => h.elim)
        replace K_s13 := K_s13.then_ hk (fun _ h => h.elim)
        replace K_s22 := K_s22.then_ hk (fun _ h => h.elim)
        refine ⟨_, rfl, ?_⟩
        clear hE a; intro a hE
        refine q0 p8_22_1 hE (st_move rfl) ?_
        clear hE a; intro a hE
        refine p_cons (s_still p8_22_2 hE (wn_some g8_22_1 rfl rfl) rfl (st_move rfl) ?_)
        clear hE a; intro a hE
        refine p_cons (s_still p8_22_3 hE (wn_some g8_22_1 rfl rfl) rfl (st_move rfl) ?_)
        clear hE a; intro a hE
        refine p_cons (s_call (xs := [Operand.tmp 111, Operand.tmp 112]) (args := [Value.slice A1 ((toL z0).length) c2, Value.slice A6 ((toL z1).length) c7]) p8_22_4 hE (wn_some g8_22_1 rfl rfl) rfl rfl Try.func37 cl37 (Same_o A1 A6 c2 c7 (toL z0) (toL z1) (lsame (toL z0) (toL z1)) rfl hoX hoY _ (C_to hRf3 K_s5) (C_to hRf8 K_s10) (by omega)) ?_)
        rintro e w52 ⟨rfl, hk⟩
        replace B_g14 := kp_blk B_g14 hk (fun h => h)
        replace K_0 := K_0.then_ hk (fun _ h => h.elim)
        replace K_s5 := K_s5.then_ hk (fun _ h => h.elim)
        replace K_s10 := K_s10.then_ hk (fun _ h => h.elim)
        replace K_s13 := K_s13.then_ hk (fun _ h => h.elim)
        replace K_s22 := K_s22.then_ hk (fun _ h => h.elim)
        refine ⟨_, rfl, ?_⟩
        clear hE a; intro a hE
        refine p_cons (s_still p8_22_5 hE (wn_some g8_22_1 rfl rfl) rfl (st_move rfl) ?_)
        clear hE a; intro a hE
        refine p_cons (s_call (xs := [Operand.tmp 114]) (args := [Value.slice A1 ((toL z0).length) c2]) p8_22_6 hE (wn_some g8_22_1 rfl rfl) rfl rfl Try.func39 cl39 (of_n A1 c2 (toL z0) (ofl_to _) _ (C_to hRf3 K_s5) hcapf3 (by have := toL_len z0; have := toL_len z1; omega)) ?_)
        rintro e w56 ⟨A53, c54, rfl, hcapf55, hF9, hk⟩
        replace B_g14 := kp_blk B_g14 hk (fun h => h)
        replace K_0 := K_0.then_ hk (fun _ h => h.elim)
        replace K_s5 := K_s5.then_ hk (fun _ h => h.elim)
        replace K_s10 := K_s10.then_ hk (fun _ h => h.elim)
        replace K_s13 := K_s13.then_ hk (fun _ h => h.elim)
        replace K_s22 := K_s22.then_ hk (fun _ h => h.elim)
        have K_s57 := Kp.refl w56 (fun _ => False)
        have hRf55 := hF9 _ (Kp.refl _ _)
        refine ⟨_, rfl, ?_⟩
        clear hE a; intro a hE
        refine p_cons (s_still p8_22_7 hE (wn_some g8_22_1 rfl rfl) rfl (st_move rfl) ?_)
        clear hE a; intro a hE
        refine p_cons (s_call (xs := [Operand.tmp 116]) (args := [Value.slice A6 ((toL z1).length) c7]) p8_22_8 hE (wn_some g8_22_1 rfl rfl) rfl rfl Try.func39 cl39 (of_n A6 c7 (toL z1) (ofl_to _) _ (C_to hRf8 K_s10) hcapf8 (by have := toL_len z0; have := toL_len z1; omega)) ?_)
        rintro e w61 ⟨A58, c59, rfl, hcapf60, hF9, hk⟩
        replace B_g14 := kp_blk B_g14 hk (fun h => h)
        replace K_0 := K_0.then_ hk (fun _ h => h.elim)
        replace K_s5 := K_s5.then_ hk (fun _ h => h.elim)
        replace K_s10 := K_s10.then_ hk (fun _ h => h.elim)
        replace K_s13 := K_s13.then_ hk (fun _ h => h.elim)
        replace K_s22 := K_s22.then_ hk (fun _ h => h.elim)
        replace K_s57 := K_s57.then_ hk (fun _ h => h.elim)
        have K_s62 := Kp.refl w61 (fun _ => False)
        have hRf60 := hF9 _ (Kp.refl _ _)
        refine ⟨_, rfl, ?_⟩
        clear hE a; intro a hE
        refine p_cons (s_call (xs := [Operand.tmp 115, Operand.tmp 117]) (args := [Value.slice A53 ((toL z0).length) c54, Value.slice A58 ((toL z1).length) c59]) p8_22_9 hE (wn_some g8_22_1 rfl rfl) rfl rfl Try.func38 cl38 (All_o A53 A58 c54 c59 (toL z0) (toL z1) (lsame (toL z0) (toL z1)) rfl hoX hoY _ (C_to hRf55 K_s57) (C_to hRf60 K_s62) (by omega)) ?_)
        rintro e w63 ⟨rfl, hk⟩
        replace B_g14 := kp_blk B_g14 hk (fun h => h)
        replace K_0 := K_0.then_ hk (fun _ h => h.elim)
        replace K_s5 := K_s5.then_ hk (fun _ h => h.elim)
        replace K_s10 := K_s10.then_ hk (fun _ h => h.elim)
        replace K_s13 := K_s13.then_ hk (fun _ h => h.elim)
        replace K_s22 := K_s22.then_ hk (fun _ h => h.elim)
        replace K_s57 := K_s57.then_ hk (fun _ h => h.elim)
        replace K_s62 := K_s62.then_ hk (fun _ h => h.elim)
        refine ⟨_, rfl, ?_⟩
        clear hE a; intro a hE
        refine p_cons (s_still p8_22_10 hE (wn_some g8_22_1 rfl rfl) rfl (st_eqlB (b := true) Try.underlying4 rfl rfl (by simp)) ?_)
        clear hE a; intro a hE
        refine q0 p8_22_11 hE (st_pick rfl rfl) ?_
        clear hE a; intro a hE
        refine q0 p8_22_12 hE (st_move rfl) ?_
        clear hE a; intro a hE
        refine p_cons (s_still p8_22_13 hE (wn_some g8_22_12 rfl rfl) rfl (st_move rfl) ?_)
        clear hE a; intro a hE
        refine p_cons (s_still p8_22_14 hE (wn_some g8_22_12 rfl rfl) rfl (st_move rfl) ?_)
        clear hE a; intro a hE
        refine p_cons (s_call (xs := [Operand.tmp 122, Operand.tmp 123]) (args := [Value.slice A1 ((toL z0).length) c2, Value.slice A1 ((toL z0).length) c2]) p8_22_15 hE (wn_some g8_22_12 rfl rfl) rfl rfl Try.func37 cl37 (Same_o A1 A1 c2 c2 (toL z0) (toL z0) true (lsame_refl _) hoX hoX _ (C_to hRf3 K_s5) (C_to hRf3 K_s5) (by omega)) ?_)
        rintro e w64 ⟨rfl, hk⟩
        replace B_g14 := kp_blk B_g14 hk (fun h => h)
        replace K_0 := K_0.then_ hk (fun _ h => h.elim)
        replace K_s5 := K_s5.then_ hk (fun _ h => h.elim)
        replace K_s10 := K_s10.then_ hk (fun _ h => h.elim)
        replace K_s13 := K_s13.then_ hk (fun _ h => h.elim)
        replace K_s22 := K_s22.then_ hk (fun _ h => h.elim)
        replace K_s57 := K_s57.then_ hk (fun _ h => h.elim)
        replace K_s62 := K_s62.then_ hk (fun _ h => h.elim)
        refine ⟨_, rfl, ?_⟩
        clear hE a; intro a hE
        refine q0 p8_22_16 hE (st_pick rfl rfl) ?_
        clear hE a; intro a hE
        refine q0 p8_22_17 hE (st_assign rfl) ?_
        clear hE a; intro a hE
        refine p_nil ?_
        refine x_norm ?_
        refine wp_ret ?_
        refine ret_one (v := Value.bool true) rfl hE (.tmp rfl .nil) ?_
        exact ⟨rfl, K_0.to (Nat.le_refl _) (fun _ h => h.elim)⟩
end Go.Proofs.Ytndiddfleidnaaa.OF
