/- The law LinksNear, walked. -/
import Derived.Test.YtpnpfapdjdcnbaaLkk
import Derived.Test.YtpnpfapdjdcnbaaKdOpen
set_option maxRecDepth 100000
set_option linter.unusedVariables false
set_option linter.unusedSimpArgs false
namespace Go.Proofs.Ytpnpfapdjdcnbaa.Ll
open Go.RowKit Go.Proofs.YtpnpfapdjdcnbaaW.PrintWords Go.Proofs.Ytpnpfapdjdcnbaa.Ds Go.Proofs.Ytpnpfapdjdcnbaa.Lk Go.Proofs.Ytpnpfapdjdcnbaa.Ln Go.Proofs.Ytpnpfapdjdcnbaa.Lh Go.Proofs.Ytpnpfapdjdcnbaa.Lq Go.Proofs.Ytpnpfapdjdcnbaa.KdOpen
open Go.Proofs.Ytpnpfapdjdcnbaa.Pk (Kp)
open Go.Proofs.Ytpnpfapdjdcnbaa.Mp (st_eqlP st_neqP x_normS x_retS x_exitS)
abbrev dA : Kd (Int × Int × Int × Int × Nat) := (Kd.pair (Kd.int .i64) (Kd.pair (Kd.int .i64) (Kd.pair (Kd.int .i64) (Kd.pair (Kd.int .i64) Kf))))
abbrev zA : Int × Int × Int × Int × Nat := (0, 0, 0, 0, 0)
theorem act_open {w : World} {k x y c : Int} {v : Nat} {l : List Value} (h : Kd.K dA w (k, x, y, c, v) l) : ∃ u, l = [.int .i64 k, .int .i64 x, .int .i64 y, .int .i64 c, u] := by
  obtain ⟨c0, d0, rfl, h0, c1, d1, rfl, h1, c2, d2, rfl, h2, c3, d3, rfl, h3, h4⟩ := h
  subst h0; subst h1; subst h2; subst h3
  exact ⟨.float .f64 v, by rw [show d3 = [Value.float .f64 v] from h4]; rfl⟩
theorem cost_sym (n : Int) (f : Int → Int → Option Int) (x y : Int) : costP n f x y = costP n f y x := by
  unfold costP
  rw [Bool.and_comm, Int.min_comm, Int.max_comm]
theorem R7_0_l : List.range (regOf Try.f7 0).size = [0] := by kernel_rfl
theorem R7_1_l : List.range (regOf Try.f7 1).size = [0, 1, 2, 3, 4, 5] := by kernel_rfl
theorem R7_2_l : List.range (regOf Try.f7 2).size = [0, 1, 2, 3, 4, 5, 6] := by kernel_rfl
theorem R7_3_l : List.range (regOf Try.f7 3).size = [0, 1, 2, 3, 4, 5, 6] := by kernel_rfl
theorem R7_4_l : List.range (regOf Try.f7 4).size = [0, 1, 2, 3, 4, 5] := by kernel_rfl
theorem R7_5_l : List.range (regOf Try.f7 5).size = [0] := by kernel_rfl
theorem R7_6_l : List.range (regOf Try.f7 6).size = [0] := by kernel_rfl
theorem R7_7_l : List.range (regOf Try.f7 7).size = [0, 1, 2, 3, 4, 5, 6, 7] := by kernel_rfl
theorem R7_9_l : List.range (regOf Try.f7 9).size = [0, 1, 2, 3, 4, 5, 6, 7, 8, 9, 10, 11, 12, 13, 14, 15, 16] := by kernel_rfl
theorem R7_8_l : List.range (regOf Try.f7 8).size = [0, 1, 2] := by kernel_rfl
theorem R7_10_l : List.range (regOf Try.f7 10).size = [0, 1, 2, 3] := by kernel_rfl
theorem R7_11_l : List.range (regOf Try.f7 11).size = [0, 1, 2, 3, 4, 5, 6, 7, 8, 9, 10] := by kernel_rfl
theorem R7_12_l : List.range (regOf Try.f7 12).size = [0] := by kernel_rfl
theorem R7_13_l : List.range (regOf Try.f7 13).size = [0] := by kernel_rfl
theorem R7_14_l : List.range (regOf Try.f7 14).size = [0, 1, 2] := by kernel_rfl
theorem R7_16_l : List.range (regOf Try.f7 16).size = [0, 1, 2, 3] := by kernel_rfl
theorem R7_17_l : List.range (regOf Try.f7 17).size = [0] := by kernel_rfl
theorem R7_18_l : List.range (regOf Try.f7 18).size = [0, 1, 2, 3] := by kernel_rfl
theorem R7_20_l : List.range (regOf Try.f7 20).size = [0, 1, 2, 3, 4] := by kernel_rfl
theorem R7_21_l : List.range (regOf Try.f7 21).size = [0, 1, 2, 3, 4, 5, 6, 7, 8] := by kernel_rfl
theorem R7_22_l : List.range (regOf Try.f7 22).size = [0, 1, 2, 3, 4, 5, 6, 7, 8] := by kernel_rfl
theorem R7_23_l : List.range (regOf Try.f7 23).size = [0, 1, 2, 3, 4, 5, 6, 7, 8, 9, 10, 11, 12, 13, 14, 15, 16, 17, 18, 19, 20, 21, 22, 23, 24, 25, 26, 27, 28, 29, 30, 31, 32, 33, 34, 35, 36, 37, 38, 39, 40, 41, 42, 43, 44, 45, 46, 47] := by kernel_rfl
theorem R7_24_l : List.range (regOf Try.f7 24).size = [0] := by kernel_rfl
theorem R7_19_l : List.range (regOf Try.f7 19).size = [0, 1, 2] := by kernel_rfl
theorem R7_15_l : List.range (regOf Try.f7 15).size = [0, 1, 2] := by kernel_rfl
theorem R7_25_l : List.range (regOf Try.f7 25).size = [0, 1] := by kernel_rfl
theorem body7 : Try.f7.body = some (.seq (.region 0 (regOf Try.f7 0) false) (.seq (.region 1 (regOf Try.f7 1) false) (.seq (.region 2 (regOf Try.f7 2) false) (.seq (.region 3 (regOf Try.f7 3) false) (.seq (.seq (.region 4 (regOf Try.f7 4) false) (.cond (Operand.tmp 40) (.seq (.region 5 (regOf Try.f7 5) false) (.ret)) (.skip))) (.seq (.seq (.region 6 (regOf Try.f7 6) false) (.block 0 (.loop (.seq (.seq (.region 7 (regOf Try.f7 7) false) (.cond (Operand.tmp 48) (.skip) (.exit 0))) (.seq (.block 1 (.region 9 (regOf Try.f7 9) true)) (.region 8 (regOf Try.f7 8) false)))))) (.seq (.region 10 (regOf Try.f7 10) false) (.seq (.seq (.region 11 (regOf Try.f7 11) false) (.cond (Operand.tmp 81) (.seq (.region 12 (regOf Try.f7 12) false) (.ret)) (.skip))) (.seq (.seq (.region 13 (regOf Try.f7 13) false) (.block 2 (.loop (.seq (.seq (.region 14 (regOf Try.f7 14) false) (.cond (Operand.tmp 84) (.skip) (.exit 2))) (.seq (.block 3 (.seq (.region 16 (regOf Try.f7 16) false) (.seq (.region 17 (regOf Try.f7 17) false) (.block 4 (.loop (.seq (.seq (.region 18 (regOf Try.f7 18) false) (.cond (Operand.tmp 93) (.skip) (.exit 4))) (.seq (.block 5 (.seq (.region 20 (regOf Try.f7 20) false) (.seq (.region 21 (regOf Try.f7 21) false) (.seq (.region 22 (regOf Try.f7 22) false) (.seq (.region 23 (regOf Try.f7 23) true) (.cond (Operand.tmp 161) (.seq (.region 24 (regOf Try.f7 24) false) (.ret)) (.skip))))))) (.region 19 (regOf Try.f7 19) false)))))))) (.region 15 (regOf Try.f7 15) false)))))) (.seq (.region 25 (regOf Try.f7 25) false) (.ret))))))))))) := by kernel_rfl
theorem p7_0_0 : pj (regOf Try.f7 0) 0 = some (some 6, .assign (.const (.bool false)), 4, none) := by kernel_rfl
theorem p7_1_0 : pj (regOf Try.f7 1) 0 = some (some 19, .move (.tmp 0), 3, none) := by kernel_rfl
theorem p7_1_1 : pj (regOf Try.f7 1) 1 = some (some 20, .convert 3 44 (.tmp 19), 44, none) := by kernel_rfl
theorem p7_1_2 : pj (regOf Try.f7 1) 2 = some (some 21, .binOp .rem 44 (.tmp 20) (.const (.int .u64 64)) 44, 44, none) := by kernel_rfl
theorem p7_1_3 : pj (regOf Try.f7 1) 3 = some (some 22, .convert 44 3 (.tmp 21), 3, none) := by kernel_rfl
theorem p7_1_4 : pj (regOf Try.f7 1) 4 = some (some 23, .binOp .add 3 (.const (.int .i64 1)) (.tmp 22) 3, 3, none) := by kernel_rfl
theorem p7_1_5 : pj (regOf Try.f7 1) 5 = some (some 0, .assign (.tmp 23), 3, none) := by kernel_rfl
theorem p7_2_0 : pj (regOf Try.f7 2) 0 = some (some 24, .move (.tmp 2), 3, none) := by kernel_rfl
theorem p7_2_1 : pj (regOf Try.f7 2) 1 = some (some 25, .convert 3 44 (.tmp 24), 44, none) := by kernel_rfl
theorem p7_2_2 : pj (regOf Try.f7 2) 2 = some (some 26, .move (.tmp 0), 3, none) := by kernel_rfl
theorem p7_2_3 : pj (regOf Try.f7 2) 3 = some (some 27, .convert 3 44 (.tmp 26), 44, none) := by kernel_rfl
theorem p7_2_4 : pj (regOf Try.f7 2) 4 = some (some 28, .binOp .rem 44 (.tmp 25) (.tmp 27) 44, 44, none) := by kernel_rfl
theorem p7_2_5 : pj (regOf Try.f7 2) 5 = some (some 29, .convert 44 3 (.tmp 28), 3, none) := by kernel_rfl
theorem p7_2_6 : pj (regOf Try.f7 2) 6 = some (some 2, .assign (.tmp 29), 3, none) := by kernel_rfl
theorem p7_3_0 : pj (regOf Try.f7 3) 0 = some (some 31, .move (.tmp 0), 3, none) := by kernel_rfl
theorem p7_3_1 : pj (regOf Try.f7 3) 1 = some (some 32, .call { callee := .value (.func 28), args := #[.tmp 31], argTypes := #[3] }, 57, none) := by kernel_rfl
theorem cl28 : callable Try.f28 = true := by kernel_rfl
theorem p7_3_2 : pj (regOf Try.f7 3) 2 = some (some 30, .move (.tmp 32), 57, none) := by kernel_rfl
theorem p7_3_3 : pj (regOf Try.f7 3) 3 = some (some 33, .extract (.tmp 30) 0, 56, none) := by kernel_rfl
theorem p7_3_4 : pj (regOf Try.f7 3) 4 = some (some 34, .extract (.tmp 30) 1, 23, none) := by kernel_rfl
theorem p7_3_5 : pj (regOf Try.f7 3) 5 = some (some 7, .assign (.tmp 33), 56, none) := by kernel_rfl
theorem p7_3_6 : pj (regOf Try.f7 3) 6 = some (some 8, .assign (.tmp 34), 23, none) := by kernel_rfl
theorem p7_4_0 : pj (regOf Try.f7 4) 0 = some (some 35, .move (.tmp 8), 23, none) := by kernel_rfl
theorem p7_4_1 : pj (regOf Try.f7 4) 1 = some (some 36, .binOp .neq 23 (.tmp 35) (.const (.int .i64 0)) 23, 4, none) := by kernel_rfl
theorem p7_4_2 : pj (regOf Try.f7 4) 2 = some (some 37, .move (.tmp 36), 4, none) := by kernel_rfl
theorem p7_4_3 : pj (regOf Try.f7 4) 3 = some (some 38, .move (.tmp 7), 56, some (2, false)) := by kernel_rfl
theorem g7_4_2 : dstOf (regOf Try.f7 4) 2 = some 37 := by kernel_rfl
theorem p7_4_4 : pj (regOf Try.f7 4) 4 = some (some 39, .binOp .eql 56 (.tmp 38) (.const (.pointer none)) 56, 4, some (2, false)) := by kernel_rfl
theorem tP56 : Try.prog.underlying 56 = some (.pointer (Try.prog.pointee 56)) := by kernel_rfl
theorem p7_4_5 : pj (regOf Try.f7 4) 5 = some (some 40, .pick (.tmp 37) (.const (.bool true)) (.tmp 39), 4, none) := by kernel_rfl
theorem p7_6_0 : pj (regOf Try.f7 6) 0 = some (some 9, .assign (.const (.int .i64 0)), 3, none) := by kernel_rfl
theorem p7_7_0 : pj (regOf Try.f7 7) 0 = some (some 41, .move (.tmp 9), 3, none) := by kernel_rfl
theorem p7_7_1 : pj (regOf Try.f7 7) 1 = some (some 42, .move (.tmp 1), 55, none) := by kernel_rfl
theorem p7_7_2 : pj (regOf Try.f7 7) 2 = some (some 43, .call { callee := .builtin .len, args := #[.tmp 42], argTypes := #[55] }, 3, none) := by kernel_rfl
theorem p7_7_3 : pj (regOf Try.f7 7) 3 = some (some 44, .binOp .lss 3 (.tmp 41) (.tmp 43) 3, 4, none) := by kernel_rfl
theorem p7_7_4 : pj (regOf Try.f7 7) 4 = some (some 45, .move (.tmp 44), 4, none) := by kernel_rfl
theorem p7_7_5 : pj (regOf Try.f7 7) 5 = some (some 46, .move (.tmp 9), 3, some (4, true)) := by kernel_rfl
theorem g7_7_4 : dstOf (regOf Try.f7 7) 4 = some 45 := by kernel_rfl
theorem p7_7_6 : pj (regOf Try.f7 7) 6 = some (some 47, .binOp .lss 3 (.tmp 46) (.const (.int .i64 40)) 3, 4, some (4, true)) := by kernel_rfl
theorem p7_7_7 : pj (regOf Try.f7 7) 7 = some (some 48, .pick (.tmp 45) (.tmp 47) (.const (.bool false)), 4, none) := by kernel_rfl
theorem ns7_9 : Region.noSelect (regOf Try.f7 9) = true := by kernel_rfl
theorem p7_9_0 : pj (regOf Try.f7 9) 0 = some (some 51, .move (.tmp 7), 56, none) := by kernel_rfl
theorem p7_9_1 : pj (regOf Try.f7 9) 1 = some (some 52, .move (.tmp 1), 55, none) := by kernel_rfl
theorem p7_9_2 : pj (regOf Try.f7 9) 2 = some (some 53, .move (.tmp 9), 3, none) := by kernel_rfl
theorem p7_9_3 : pj (regOf Try.f7 9) 3 = some (some 54, .indexAddr 55 (.tmp 52) (.tmp 53), 0, none) := by kernel_rfl
theorem tS61 : (Try.prog.info? 61).map (·.size) = some 5 := by kernel_rfl
theorem p7_9_4 : pj (regOf Try.f7 9) 4 = some (some 55, .fieldAddr 61 (.tmp 54) 1, 0, none) := by kernel_rfl
theorem tS3 : (Try.prog.info? 3).map (·.size) = some 1 := by kernel_rfl
theorem p7_9_5 : pj (regOf Try.f7 9) 5 = some (some 56, .load 3 (.tmp 55), 3, none) := by kernel_rfl
theorem tA3 : (Try.prog.underlying 3).map aggD = some false := by kernel_rfl
theorem p7_9_6 : pj (regOf Try.f7 9) 6 = some (some 57, .move (.tmp 1), 55, none) := by kernel_rfl
theorem p7_9_7 : pj (regOf Try.f7 9) 7 = some (some 58, .move (.tmp 9), 3, none) := by kernel_rfl
theorem p7_9_8 : pj (regOf Try.f7 9) 8 = some (some 59, .indexAddr 55 (.tmp 57) (.tmp 58), 0, none) := by kernel_rfl
theorem p7_9_9 : pj (regOf Try.f7 9) 9 = some (some 60, .fieldAddr 61 (.tmp 59) 2, 0, none) := by kernel_rfl
theorem p7_9_10 : pj (regOf Try.f7 9) 10 = some (some 61, .load 3 (.tmp 60), 3, none) := by kernel_rfl
theorem p7_9_11 : pj (regOf Try.f7 9) 11 = some (some 62, .move (.tmp 1), 55, none) := by kernel_rfl
theorem p7_9_12 : pj (regOf Try.f7 9) 12 = some (some 63, .move (.tmp 9), 3, none) := by kernel_rfl
theorem p7_9_13 : pj (regOf Try.f7 9) 13 = some (some 64, .indexAddr 55 (.tmp 62) (.tmp 63), 0, none) := by kernel_rfl
theorem p7_9_14 : pj (regOf Try.f7 9) 14 = some (some 65, .fieldAddr 61 (.tmp 64) 3, 0, none) := by kernel_rfl
theorem p7_9_15 : pj (regOf Try.f7 9) 15 = some (some 66, .load 3 (.tmp 65), 3, none) := by kernel_rfl
theorem p7_9_16 : pj (regOf Try.f7 9) 16 = some (some 67, .call { callee := .value (.func 29), args := #[.tmp 51, .tmp 56, .tmp 61, .tmp 66], argTypes := #[56, 3, 3, 3] }, 23, none) := by kernel_rfl
theorem cl29 : callable Try.f29 = true := by kernel_rfl
theorem p7_8_0 : pj (regOf Try.f7 8) 0 = some (some 49, .move (.tmp 9), 3, none) := by kernel_rfl
theorem p7_8_1 : pj (regOf Try.f7 8) 1 = some (some 50, .binOp .add 3 (.tmp 49) (.const (.int .i64 1)) 3, 3, none) := by kernel_rfl
theorem p7_8_2 : pj (regOf Try.f7 8) 2 = some (some 9, .assign (.tmp 50), 3, none) := by kernel_rfl
theorem p7_10_0 : pj (regOf Try.f7 10) 0 = some (some 68, .move (.tmp 7), 56, none) := by kernel_rfl
theorem p7_10_1 : pj (regOf Try.f7 10) 1 = some (some 69, .move (.tmp 2), 3, none) := by kernel_rfl
theorem p7_10_2 : pj (regOf Try.f7 10) 2 = some (some 70, .call { callee := .value (.func 30), args := #[.tmp 68, .tmp 69], argTypes := #[56, 3] }, 52, none) := by kernel_rfl
theorem cl30 : callable Try.f30 = true := by kernel_rfl
theorem p7_10_3 : pj (regOf Try.f7 10) 3 = some (some 10, .assign (.tmp 70), 52, none) := by kernel_rfl
theorem p7_11_0 : pj (regOf Try.f7 11) 0 = some (some 71, .move (.tmp 10), 52, none) := by kernel_rfl
theorem p7_11_1 : pj (regOf Try.f7 11) 1 = some (some 72, .call { callee := .builtin .len, args := #[.tmp 71], argTypes := #[52] }, 3, none) := by kernel_rfl
theorem p7_11_2 : pj (regOf Try.f7 11) 2 = some (some 73, .move (.tmp 0), 3, none) := by kernel_rfl
theorem p7_11_3 : pj (regOf Try.f7 11) 3 = some (some 74, .binOp .neq 3 (.tmp 72) (.tmp 73) 3, 4, none) := by kernel_rfl
theorem p7_11_4 : pj (regOf Try.f7 11) 4 = some (some 75, .move (.tmp 74), 4, none) := by kernel_rfl
theorem p7_11_5 : pj (regOf Try.f7 11) 5 = some (some 76, .move (.tmp 10), 52, some (4, false)) := by kernel_rfl
theorem g7_11_4 : dstOf (regOf Try.f7 11) 4 = some 75 := by kernel_rfl
theorem p7_11_6 : pj (regOf Try.f7 11) 6 = some (some 77, .move (.tmp 2), 3, some (4, false)) := by kernel_rfl
theorem p7_11_7 : pj (regOf Try.f7 11) 7 = some (some 78, .indexAddr 52 (.tmp 76) (.tmp 77), 0, some (4, false)) := by kernel_rfl
theorem p7_11_8 : pj (regOf Try.f7 11) 8 = some (some 79, .load 3 (.tmp 78), 3, some (4, false)) := by kernel_rfl
theorem p7_11_9 : pj (regOf Try.f7 11) 9 = some (some 80, .binOp .neq 3 (.tmp 79) (.const (.int .i64 0)) 3, 4, some (4, false)) := by kernel_rfl
theorem p7_11_10 : pj (regOf Try.f7 11) 10 = some (some 81, .pick (.tmp 75) (.const (.bool true)) (.tmp 80), 4, none) := by kernel_rfl
theorem p7_13_0 : pj (regOf Try.f7 13) 0 = some (some 11, .assign (.const (.int .i64 0)), 3, none) := by kernel_rfl
theorem p7_14_0 : pj (regOf Try.f7 14) 0 = some (some 82, .move (.tmp 11), 3, none) := by kernel_rfl
theorem p7_14_1 : pj (regOf Try.f7 14) 1 = some (some 83, .move (.tmp 0), 3, none) := by kernel_rfl
theorem p7_14_2 : pj (regOf Try.f7 14) 2 = some (some 84, .binOp .lss 3 (.tmp 82) (.tmp 83) 3, 4, none) := by kernel_rfl
theorem p7_16_0 : pj (regOf Try.f7 16) 0 = some (some 87, .move (.tmp 7), 56, none) := by kernel_rfl
theorem p7_16_1 : pj (regOf Try.f7 16) 1 = some (some 88, .move (.tmp 11), 3, none) := by kernel_rfl
theorem p7_16_2 : pj (regOf Try.f7 16) 2 = some (some 89, .call { callee := .value (.func 31), args := #[.tmp 87, .tmp 88], argTypes := #[56, 3] }, 52, none) := by kernel_rfl
theorem cl31 : callable Try.f31 = true := by kernel_rfl
theorem p7_16_3 : pj (regOf Try.f7 16) 3 = some (some 12, .assign (.tmp 89), 52, none) := by kernel_rfl
theorem p7_17_0 : pj (regOf Try.f7 17) 0 = some (some 13, .assign (.const (.int .i64 0)), 3, none) := by kernel_rfl
theorem p7_18_0 : pj (regOf Try.f7 18) 0 = some (some 90, .move (.tmp 13), 3, none) := by kernel_rfl
theorem p7_18_1 : pj (regOf Try.f7 18) 1 = some (some 91, .move (.tmp 12), 52, none) := by kernel_rfl
theorem p7_18_2 : pj (regOf Try.f7 18) 2 = some (some 92, .call { callee := .builtin .len, args := #[.tmp 91], argTypes := #[52] }, 3, none) := by kernel_rfl
theorem p7_18_3 : pj (regOf Try.f7 18) 3 = some (some 93, .binOp .lss 3 (.tmp 90) (.tmp 92) 3, 4, none) := by kernel_rfl
theorem p7_20_0 : pj (regOf Try.f7 20) 0 = some (some 96, .move (.tmp 12), 52, none) := by kernel_rfl
theorem p7_20_1 : pj (regOf Try.f7 20) 1 = some (some 97, .move (.tmp 13), 3, none) := by kernel_rfl
theorem p7_20_2 : pj (regOf Try.f7 20) 2 = some (some 98, .indexAddr 52 (.tmp 96) (.tmp 97), 0, none) := by kernel_rfl
theorem p7_20_3 : pj (regOf Try.f7 20) 3 = some (some 99, .load 3 (.tmp 98), 3, none) := by kernel_rfl
theorem p7_20_4 : pj (regOf Try.f7 20) 4 = some (some 14, .assign (.tmp 99), 3, none) := by kernel_rfl
theorem p7_21_0 : pj (regOf Try.f7 21) 0 = some (some 101, .move (.tmp 7), 56, none) := by kernel_rfl
theorem p7_21_1 : pj (regOf Try.f7 21) 1 = some (some 102, .move (.tmp 11), 3, none) := by kernel_rfl
theorem p7_21_2 : pj (regOf Try.f7 21) 2 = some (some 103, .move (.tmp 14), 3, none) := by kernel_rfl
theorem p7_21_3 : pj (regOf Try.f7 21) 3 = some (some 104, .call { callee := .value (.func 32), args := #[.tmp 101, .tmp 102, .tmp 103], argTypes := #[56, 3, 3] }, 24, none) := by kernel_rfl
theorem cl32 : callable Try.f32 = true := by kernel_rfl
theorem p7_21_4 : pj (regOf Try.f7 21) 4 = some (some 100, .move (.tmp 104), 24, none) := by kernel_rfl
theorem p7_21_5 : pj (regOf Try.f7 21) 5 = some (some 105, .extract (.tmp 100) 0, 3, none) := by kernel_rfl
theorem p7_21_6 : pj (regOf Try.f7 21) 6 = some (some 106, .extract (.tmp 100) 1, 23, none) := by kernel_rfl
theorem p7_21_7 : pj (regOf Try.f7 21) 7 = some (some 15, .assign (.tmp 105), 3, none) := by kernel_rfl
theorem p7_21_8 : pj (regOf Try.f7 21) 8 = some (some 16, .assign (.tmp 106), 23, none) := by kernel_rfl
theorem p7_22_0 : pj (regOf Try.f7 22) 0 = some (some 108, .move (.tmp 7), 56, none) := by kernel_rfl
theorem p7_22_1 : pj (regOf Try.f7 22) 1 = some (some 109, .move (.tmp 14), 3, none) := by kernel_rfl
theorem p7_22_2 : pj (regOf Try.f7 22) 2 = some (some 110, .move (.tmp 11), 3, none) := by kernel_rfl
theorem p7_22_3 : pj (regOf Try.f7 22) 3 = some (some 111, .call { callee := .value (.func 32), args := #[.tmp 108, .tmp 109, .tmp 110], argTypes := #[56, 3, 3] }, 24, none) := by kernel_rfl
theorem p7_22_4 : pj (regOf Try.f7 22) 4 = some (some 107, .move (.tmp 111), 24, none) := by kernel_rfl
theorem p7_22_5 : pj (regOf Try.f7 22) 5 = some (some 112, .extract (.tmp 107) 0, 3, none) := by kernel_rfl
theorem p7_22_6 : pj (regOf Try.f7 22) 6 = some (some 113, .extract (.tmp 107) 1, 23, none) := by kernel_rfl
theorem p7_22_7 : pj (regOf Try.f7 22) 7 = some (some 17, .assign (.tmp 112), 3, none) := by kernel_rfl
theorem p7_22_8 : pj (regOf Try.f7 22) 8 = some (some 18, .assign (.tmp 113), 23, none) := by kernel_rfl
theorem ns7_23 : Region.noSelect (regOf Try.f7 23) = true := by kernel_rfl
theorem p7_23_0 : pj (regOf Try.f7 23) 0 = some (some 114, .move (.tmp 16), 23, none) := by kernel_rfl
theorem p7_23_1 : pj (regOf Try.f7 23) 1 = some (some 115, .binOp .neq 23 (.tmp 114) (.const (.int .i64 0)) 23, 4, none) := by kernel_rfl
theorem p7_23_2 : pj (regOf Try.f7 23) 2 = some (some 116, .move (.tmp 115), 4, none) := by kernel_rfl
theorem g7_23_2 : dstOf (regOf Try.f7 23) 2 = some 116 := by kernel_rfl
theorem p7_23_3 : pj (regOf Try.f7 23) 3 = some (some 117, .move (.tmp 18), 23, some (2, false)) := by kernel_rfl
theorem p7_23_4 : pj (regOf Try.f7 23) 4 = some (some 118, .binOp .neq 23 (.tmp 117) (.const (.int .i64 0)) 23, 4, some (2, false)) := by kernel_rfl
theorem p7_23_5 : pj (regOf Try.f7 23) 5 = some (some 119, .pick (.tmp 116) (.const (.bool true)) (.tmp 118), 4, none) := by kernel_rfl
theorem p7_23_6 : pj (regOf Try.f7 23) 6 = some (some 120, .move (.tmp 119), 4, none) := by kernel_rfl
theorem g7_23_6 : dstOf (regOf Try.f7 23) 6 = some 120 := by kernel_rfl
theorem p7_23_7 : pj (regOf Try.f7 23) 7 = some (some 121, .move (.tmp 15), 3, some (6, false)) := by kernel_rfl
theorem p7_23_8 : pj (regOf Try.f7 23) 8 = some (some 122, .move (.tmp 17), 3, some (6, false)) := by kernel_rfl
theorem p7_23_9 : pj (regOf Try.f7 23) 9 = some (some 123, .binOp .neq 3 (.tmp 121) (.tmp 122) 3, 4, some (6, false)) := by kernel_rfl
theorem p7_23_10 : pj (regOf Try.f7 23) 10 = some (some 124, .pick (.tmp 120) (.const (.bool true)) (.tmp 123), 4, none) := by kernel_rfl
theorem p7_23_11 : pj (regOf Try.f7 23) 11 = some (some 125, .move (.tmp 124), 4, none) := by kernel_rfl
theorem g7_23_11 : dstOf (regOf Try.f7 23) 11 = some 125 := by kernel_rfl
theorem p7_23_12 : pj (regOf Try.f7 23) 12 = some (some 126, .move (.tmp 10), 52, some (11, false)) := by kernel_rfl
theorem p7_23_13 : pj (regOf Try.f7 23) 13 = some (some 127, .move (.tmp 11), 3, some (11, false)) := by kernel_rfl
theorem p7_23_14 : pj (regOf Try.f7 23) 14 = some (some 128, .indexAddr 52 (.tmp 126) (.tmp 127), 0, some (11, false)) := by kernel_rfl
theorem p7_23_15 : pj (regOf Try.f7 23) 15 = some (some 129, .load 3 (.tmp 128), 3, some (11, false)) := by kernel_rfl
theorem p7_23_16 : pj (regOf Try.f7 23) 16 = some (some 130, .binOp .lss 3 (.tmp 129) (.const (.int .i64 0)) 3, 4, some (11, false)) := by kernel_rfl
theorem p7_23_17 : pj (regOf Try.f7 23) 17 = some (some 131, .move (.tmp 10), 52, some (11, false)) := by kernel_rfl
theorem p7_23_18 : pj (regOf Try.f7 23) 18 = some (some 132, .move (.tmp 14), 3, some (11, false)) := by kernel_rfl
theorem p7_23_19 : pj (regOf Try.f7 23) 19 = some (some 133, .indexAddr 52 (.tmp 131) (.tmp 132), 0, some (11, false)) := by kernel_rfl
theorem p7_23_20 : pj (regOf Try.f7 23) 20 = some (some 134, .load 3 (.tmp 133), 3, some (11, false)) := by kernel_rfl
theorem p7_23_21 : pj (regOf Try.f7 23) 21 = some (some 135, .binOp .lss 3 (.tmp 134) (.const (.int .i64 0)) 3, 4, some (11, false)) := by kernel_rfl
theorem p7_23_22 : pj (regOf Try.f7 23) 22 = some (some 136, .binOp .neq 4 (.tmp 130) (.tmp 135) 4, 4, some (11, false)) := by kernel_rfl
theorem p7_23_23 : pj (regOf Try.f7 23) 23 = some (some 137, .pick (.tmp 125) (.const (.bool true)) (.tmp 136), 4, none) := by kernel_rfl
theorem p7_23_24 : pj (regOf Try.f7 23) 24 = some (some 138, .move (.tmp 137), 4, none) := by kernel_rfl
theorem g7_23_24 : dstOf (regOf Try.f7 23) 24 = some 138 := by kernel_rfl
theorem p7_23_25 : pj (regOf Try.f7 23) 25 = some (some 139, .move (.tmp 10), 52, some (24, false)) := by kernel_rfl
theorem p7_23_26 : pj (regOf Try.f7 23) 26 = some (some 140, .move (.tmp 11), 3, some (24, false)) := by kernel_rfl
theorem p7_23_27 : pj (regOf Try.f7 23) 27 = some (some 141, .indexAddr 52 (.tmp 139) (.tmp 140), 0, some (24, false)) := by kernel_rfl
theorem p7_23_28 : pj (regOf Try.f7 23) 28 = some (some 142, .load 3 (.tmp 141), 3, some (24, false)) := by kernel_rfl
theorem p7_23_29 : pj (regOf Try.f7 23) 29 = some (some 143, .move (.tmp 10), 52, some (24, false)) := by kernel_rfl
theorem p7_23_30 : pj (regOf Try.f7 23) 30 = some (some 144, .move (.tmp 14), 3, some (24, false)) := by kernel_rfl
theorem p7_23_31 : pj (regOf Try.f7 23) 31 = some (some 145, .indexAddr 52 (.tmp 143) (.tmp 144), 0, some (24, false)) := by kernel_rfl
theorem p7_23_32 : pj (regOf Try.f7 23) 32 = some (some 146, .load 3 (.tmp 145), 3, some (24, false)) := by kernel_rfl
theorem p7_23_33 : pj (regOf Try.f7 23) 33 = some (some 147, .binOp .sub 3 (.tmp 142) (.tmp 146) 3, 3, some (24, false)) := by kernel_rfl
theorem p7_23_34 : pj (regOf Try.f7 23) 34 = some (some 148, .binOp .gtr 3 (.tmp 147) (.const (.int .i64 1)) 3, 4, some (24, false)) := by kernel_rfl
theorem p7_23_35 : pj (regOf Try.f7 23) 35 = some (some 149, .pick (.tmp 138) (.const (.bool true)) (.tmp 148), 4, none) := by kernel_rfl
theorem p7_23_36 : pj (regOf Try.f7 23) 36 = some (some 150, .move (.tmp 149), 4, none) := by kernel_rfl
theorem g7_23_36 : dstOf (regOf Try.f7 23) 36 = some 150 := by kernel_rfl
theorem p7_23_37 : pj (regOf Try.f7 23) 37 = some (some 151, .move (.tmp 10), 52, some (36, false)) := by kernel_rfl
theorem p7_23_38 : pj (regOf Try.f7 23) 38 = some (some 152, .move (.tmp 14), 3, some (36, false)) := by kernel_rfl
theorem p7_23_39 : pj (regOf Try.f7 23) 39 = some (some 153, .indexAddr 52 (.tmp 151) (.tmp 152), 0, some (36, false)) := by kernel_rfl
theorem p7_23_40 : pj (regOf Try.f7 23) 40 = some (some 154, .load 3 (.tmp 153), 3, some (36, false)) := by kernel_rfl
theorem p7_23_41 : pj (regOf Try.f7 23) 41 = some (some 155, .move (.tmp 10), 52, some (36, false)) := by kernel_rfl
theorem p7_23_42 : pj (regOf Try.f7 23) 42 = some (some 156, .move (.tmp 11), 3, some (36, false)) := by kernel_rfl
theorem p7_23_43 : pj (regOf Try.f7 23) 43 = some (some 157, .indexAddr 52 (.tmp 155) (.tmp 156), 0, some (36, false)) := by kernel_rfl
theorem p7_23_44 : pj (regOf Try.f7 23) 44 = some (some 158, .load 3 (.tmp 157), 3, some (36, false)) := by kernel_rfl
theorem p7_23_45 : pj (regOf Try.f7 23) 45 = some (some 159, .binOp .sub 3 (.tmp 154) (.tmp 158) 3, 3, some (36, false)) := by kernel_rfl
theorem p7_23_46 : pj (regOf Try.f7 23) 46 = some (some 160, .binOp .gtr 3 (.tmp 159) (.const (.int .i64 1)) 3, 4, some (36, false)) := by kernel_rfl
theorem p7_23_47 : pj (regOf Try.f7 23) 47 = some (some 161, .pick (.tmp 150) (.const (.bool true)) (.tmp 160), 4, none) := by kernel_rfl
theorem p7_19_0 : pj (regOf Try.f7 19) 0 = some (some 94, .move (.tmp 13), 3, none) := by kernel_rfl
theorem p7_19_1 : pj (regOf Try.f7 19) 1 = some (some 95, .binOp .add 3 (.tmp 94) (.const (.int .i64 1)) 3, 3, none) := by kernel_rfl
theorem p7_19_2 : pj (regOf Try.f7 19) 2 = some (some 13, .assign (.tmp 95), 3, none) := by kernel_rfl
theorem p7_15_0 : pj (regOf Try.f7 15) 0 = some (some 85, .move (.tmp 11), 3, none) := by kernel_rfl
theorem p7_15_1 : pj (regOf Try.f7 15) 1 = some (some 86, .binOp .add 3 (.tmp 85) (.const (.int .i64 1)) 3, 3, none) := by kernel_rfl
theorem p7_15_2 : pj (regOf Try.f7 15) 2 = some (some 11, .assign (.tmp 86), 3, none) := by kernel_rfl
theorem p7_25_0 : pj (regOf Try.f7 25) 0 = some (some 162, .call { callee := .value (.func 33), args := #[], argTypes := #[] }, 4, none) := by kernel_rfl
theorem cl33 : callable Try.f33 = true := by kernel_rfl
theorem p7_25_1 : pj (regOf Try.f7 25) 1 = some (some 6, .assign (.tmp 162), 4, none) := by kernel_rfl
set_option maxHeartbeats 4000000 in
theorem walk (a0 : Int) (a1 : Option Addr) (cap1 : Nat) (z1 : List (Int × Int × Int × Int × Nat)) (a2 : Int) (w : World) (w0 : (Lit.int .i64 a0).wf = true) (w1 : Kd.C (Kd.pair (Kd.int .i64) (Kd.pair (Kd.int .i64) (Kd.pair (Kd.int .i64) (Kd.pair (Kd.int .i64) Kf)))) w a1 z1.length z1) (m1 : z1.length ≤ cap1) (o1 : (z1.length ≤ maxLen ∧ ∀ x0 ∈ z1, ((Lit.int .i64 x0.1).wf = true ∧ ((Lit.int .i64 x0.2.1).wf = true ∧ ((Lit.int .i64 x0.2.2.1).wf = true ∧ ((Lit.int .i64 x0.2.2.2.1).wf = true ∧ ((Lit.float .f64 x0.2.2.2.2).wf = true))))))) (y1 : z1.length * Try.prog.bytesOf 61 ≤ 140737488351232) (c1 : cap1 ≤ maxLen ∧ (a1 = none → cap1 = 0)) (w2 : (Lit.int .i64 a2).wf = true) :
    Calls Try.prog 7 #[.int .i64 a0, .slice a1 z1.length cap1, .int .i64 a2] w fun e w' => e = .returned (.bool true) ∧ Below w.heap.size w w' := by
  have K_0 := Kp.refl w (fun _ => False)
  have Fz1 := w1
  obtain ⟨nn, hn⟩ : ∃ nn : Nat, 1 + a0 % 18446744073709551616 % 64 = (nn : Int) := ⟨(1 + a0 % 18446744073709551616 % 64).toNat, by omega⟩
  have hnn : 1 ≤ nn ∧ nn ≤ 64 := by omega
  have hxb := Int.emod_lt_of_pos (a2 % 18446744073709551616) (show (0 : Int) < (nn : Int) by omega)
  have hxc := Int.emod_nonneg (a2 % 18446744073709551616) (show (nn : Int) ≠ 0 by omega)
  obtain ⟨x, hx⟩ : ∃ x : Nat, a2 % 18446744073709551616 % (nn : Int) = (x : Int) := ⟨(a2 % 18446744073709551616 % (nn : Int)).toNat, by omega⟩
  have hxn : x < nn := by omega
  refine enter (args := [Value.int .i64 a0, Value.slice a1 z1.length cap1, Value.int .i64 a2]) (n := 163) Try.func7 body7 rfl rfl rfl ?_
  intro a hE
  refine c_reg R7_0_l ?_
  refine q0 p7_0_0 hE (st_assign rfl) ?_
  clear hE a; intro a hE
  refine p_nil ?_
  refine x_norm ?_
  refine c_reg R7_1_l ?_
  refine q0 p7_1_0 hE (st_move rfl) ?_
  clear hE a; intro a hE
  refine q0 p7_1_1 hE (st_conv (z := (a0 % 18446744073709551616)) (by kernel_rfl) Try.underlying44 rfl (IntKind.wrap_u64 _)) ?_
  clear hE a; intro a hE
  refine q0 p7_1_2 hE (st_rem (z := (a0 % 18446744073709551616) % 64) rfl rfl (by omega) (Int.tmod_eq_emod_of_nonneg (by omega))) ?_
  clear hE a; intro a hE
  refine q0 p7_1_3 hE (st_conv (z := ((a0 % 18446744073709551616) % 64)) (by kernel_rfl) Try.underlying3 rfl (wr_i64 _ (by omega) (by omega))) ?_
  clear hE a; intro a hE
  refine q0 p7_1_4 hE (st_add (z := (nn : Int)) rfl rfl (by rw [hn]; exact wr_i64 _ (by omega) (by omega))) ?_
  clear hE a; intro a hE
  refine q0 p7_1_5 hE (st_assign rfl) ?_
  clear hE a; intro a hE
  refine p_nil ?_
  refine x_norm ?_
  refine c_reg R7_2_l ?_
  refine q0 p7_2_0 hE (st_move rfl) ?_
  clear hE a; intro a hE
  refine q0 p7_2_1 hE (st_conv (z := (a2 % 18446744073709551616)) (by kernel_rfl) Try.underlying44 rfl (IntKind.wrap_u64 _)) ?_
  clear hE a; intro a hE
  refine q0 p7_2_2 hE (st_move rfl) ?_
  clear hE a; intro a hE
  refine q0 p7_2_3 hE (st_conv (z := (nn : Int)) (by kernel_rfl) Try.underlying44 rfl (wr_u64 _ (by omega) (by omega))) ?_
  clear hE a; intro a hE
  refine q0 p7_2_4 hE (st_rem (z := (a2 % 18446744073709551616) % (nn : Int)) rfl rfl (by omega) (Int.tmod_eq_emod_of_nonneg (by omega))) ?_
  clear hE a; intro a hE
  refine q0 p7_2_5 hE (st_conv (z := (x : Int)) (by kernel_rfl) Try.underlying3 rfl (by rw [hx]; exact wr_i64 _ (by omega) (by omega))) ?_
  clear hE a; intro a hE
  refine q0 p7_2_6 hE (st_assign rfl) ?_
  clear hE a; intro a hE
  refine p_nil ?_
  refine x_norm ?_
  refine c_reg R7_3_l ?_
  refine q0 p7_3_0 hE (st_move rfl) ?_
  clear hE a; intro a hE
  refine p_cons (s_call (xs := [Operand.tmp 31]) (args := [Value.int .i64 (nn : Int)]) p7_3_1 hE wn_none rfl rfl Try.func28 cl28 (new_ok (nn : Int) ⟨by omega, by omega⟩ _) ?_)
  rintro e w1 ⟨gL, gN, rfl, zL9, zN9, n_gL_gN, B_gL, B_gN, hk⟩
  have z_0_gL := Nat.le_trans K_0.kept.1 zL9
  have z_0_gN := Nat.le_trans K_0.kept.1 zN9
  replace K_0 := K_0.then_ hk (fun _ h => h.elim)
  refine ⟨_, rfl, ?_⟩
  clear hE a; intro a hE
  refine q0 p7_3_2 hE (st_move rfl) ?_
  clear hE a; intro a hE
  refine q0 p7_3_3 hE (st_extract rfl rfl) ?_
  clear hE a; intro a hE
  refine q0 p7_3_4 hE (st_extract rfl rfl) ?_
  clear hE a; intro a hE
  refine q0 p7_3_5 hE (st_assign rfl) ?_
  clear hE a; intro a hE
  refine q0 p7_3_6 hE (st_assign rfl) ?_
  clear hE a; intro a hE
  refine p_nil ?_
  refine x_norm ?_
  refine wp_seq ?_
  refine c_reg R7_4_l ?_
  refine q0 p7_4_0 hE (st_move rfl) ?_
  clear hE a; intro a hE
  refine q0 p7_4_1 hE (st_neq (b := false) rfl rfl (by decide)) ?_
  clear hE a; intro a hE
  refine q0 p7_4_2 hE (st_move rfl) ?_
  clear hE a; intro a hE
  refine p_cons (s_still p7_4_3 hE (wn_some g7_4_2 rfl rfl) rfl (st_move rfl) ?_)
  clear hE a; intro a hE
  refine p_cons (s_still p7_4_4 hE (wn_some g7_4_2 rfl rfl) rfl (st_eqlP (b := false) tP56 rfl rfl rfl) ?_)
  clear hE a; intro a hE
  refine q0 p7_4_5 hE (st_pick rfl rfl) ?_
  clear hE a; intro a hE
  refine p_nil ?_
  refine x_norm ?_
  refine c_cond (t := false) hE rfl ?_
  refine wp_skip ?_
  refine x_norm ?_
  refine wp_seq ?_
  refine c_reg R7_6_l ?_
  refine q0 p7_6_0 hE (st_assign rfl) ?_
  clear hE a; intro a hE
  refine p_nil ?_
  refine x_norm ?_
  refine wp_block ?_
  refine c_loop (α := Nat) (fun i a W => ∃ (es9 : Array MapEntry), ∃ (ck9 : Nat), ∃ (f9 : Int → Int → Option Int), En 163 a [(0, Value.int .i64 (nn : Int)), (1, Value.slice a1 z1.length cap1), (2, Value.int .i64 (x : Int)), (6, Value.bool false), (7, Value.pointer (some ⟨gL, 0, none⟩)), (8, Value.int .i64 0), (40, Value.bool false), (9, Value.int .i64 (i : Int))] ∧ Mp.MapF es9 f9 ∧ i ≤ z1.length ∧ W.heap[gL]? = some (.cells #[Value.int .i64 (nn : Int), Value.map (some gN)] 83 (0, 0)) ∧ W.heap[gN]? = some (.map es9 ck9) ∧ Kp w W (fun _ => False)) (fun i => z1.length - i) (0) ?_ ?_
  ·
    exact ⟨#[], 0, (fun _ _ => none), En.sub hE ⟨rfl, rfl, rfl, rfl, rfl, rfl, rfl, rfl, trivial⟩, Mp.mapf_nil, Nat.zero_le _, B_gL, B_gN, K_0⟩
  ·
    clear hE a
    rintro i a w2 ⟨es9, ck9, f9, hE, MF9, hi9, B_gL, B_gN, K_0⟩
    refine wp_seq ?_
    rcases Decidable.em ((i : Int) < (z1.length : Int)) with hI1 | hI1
    ·
      rcases Decidable.em ((i : Int) < 40) with hI2 | hI2
      ·
        refine c_reg R7_7_l ?_
        refine q0 p7_7_0 hE (st_move rfl) ?_
        clear hE a; intro a hE
        refine q0 p7_7_1 hE (st_move rfl) ?_
        clear hE a; intro a hE
        refine q0 p7_7_2 hE (st_len Try.underlying55 rfl) ?_
        clear hE a; intro a hE
        refine q0 p7_7_3 hE (st_lss (b := true) rfl rfl (decide_eq_true hI1)) ?_
        clear hE a; intro a hE
        refine q0 p7_7_4 hE (st_move rfl) ?_
        clear hE a; intro a hE
        refine p_cons (s_still p7_7_5 hE (wn_some g7_7_4 rfl rfl) rfl (st_move rfl) ?_)
        clear hE a; intro a hE
        refine p_cons (s_still p7_7_6 hE (wn_some g7_7_4 rfl rfl) rfl (st_lss (b := true) rfl rfl (decide_eq_true hI2)) ?_)
        clear hE a; intro a hE
        refine q0 p7_7_7 hE (st_pick rfl rfl) ?_
        clear hE a; intro a hE
        refine p_nil ?_
        refine x_norm ?_
        refine c_cond (t := true) hE rfl ?_
        refine wp_skip ?_
        refine x_norm ?_
        refine wp_seq ?_
        refine wp_block ?_
        obtain ⟨hAe, cce, hKe, hce⟩ := C_elem (i := i) Fz1 zA (show i < z1.length by omega)
        obtain ⟨⟨xk, xa, xb, xc, xx⟩, hxe⟩ : ∃ x, List.getD z1 i zA = x := ⟨_, rfl⟩
        rw [hxe] at hKe
        obtain ⟨v9, rfl⟩ := act_open hKe
        refine c_draw (S := fun W => W.heap[gL]? = some (.cells #[Value.int .i64 (nn : Int), Value.map (some gN)] 83 (0, 0)) ∧ (∀ j u, ([Value.int .i64 xk, Value.int .i64 xa, Value.int .i64 xb, Value.int .i64 xc, v9])[j]? = some u → W.cell? (ea a1 (i * 5 + j)) = some u) ∧ True) rfl rfl (listed := #[false, false, false, false, false, false, false, false, false, false, false, false, false, false, false, false, false]) rfl ?_
        intro w3 hh hk
        replace B_gL := kp_blk B_gL hk (fun h => h)
        replace B_gN := kp_blk B_gN hk (fun h => h)
        replace K_0 := K_0.then_ hk (fun _ h => h.elim)
        clear hh hk
        refine d_take (v := Value.pointer (some ⟨gL, 0, none⟩)) p7_9_0 ns7_9 (by kernel_rfl) (by kernel_rfl) (fun _ _ _ h => h) hE wn_none rfl ⟨B_gL, (fun j u h => cell_to K_0 (hce j u h)), trivial⟩ (fun W hS => (st_move rfl)) rfl ?_
        clear hE a; intro a hE
        refine d_take (v := Value.slice a1 z1.length cap1) p7_9_1 ns7_9 (by kernel_rfl) (by kernel_rfl) (fun _ _ _ h => h) hE wn_none rfl ⟨B_gL, (fun j u h => cell_to K_0 (hce j u h)), trivial⟩ (fun W hS => (st_move rfl)) rfl ?_
        clear hE a; intro a hE
        refine d_take (v := Value.int .i64 (i : Int)) p7_9_2 ns7_9 (by kernel_rfl) (by kernel_rfl) (fun _ _ _ h => h) hE wn_none rfl ⟨B_gL, (fun j u h => cell_to K_0 (hce j u h)), trivial⟩ (fun W hS => (st_move rfl)) rfl ?_
        clear hE a; intro a hE
        refine d_take (v := Value.pointer (some (ea a1 (i * 5)))) p7_9_3 ns7_9 (by kernel_rfl) (by kernel_rfl) (fun _ _ _ h => h) hE wn_none rfl ⟨B_gL, (fun j u h => cell_to K_0 (hce j u h)), trivial⟩ (fun W hS => (st_indexAddrR (i := i) (s := 5) Try.underlying55 tS61 hAe rfl rfl (by omega))) rfl ?_
        clear hE a; intro a hE
        refine d_take (v := Value.pointer (some (ea a1 (i * 5 + 1)))) p7_9_4 ns7_9 (by kernel_rfl) (by kernel_rfl) (fun _ _ _ h => h) hE wn_none rfl ⟨B_gL, (fun j u h => cell_to K_0 (hce j u h)), trivial⟩ (fun W hS => (st_fieldAddrR (off := i * 5) (f0 := 1) (o' := i * 5 + 1) Try.underlying61 rfl tS3 rfl (by omega) rfl)) rfl ?_
        clear hE a; intro a hE
        refine d_take (v := Value.int .i64 xa) p7_9_5 ns7_9 (by kernel_rfl) (by kernel_rfl) (fun _ _ _ h => h) hE wn_none rfl ⟨B_gL, (fun j u h => cell_to K_0 (hce j u h)), trivial⟩ (fun W hS => (st_loadR1 (off := i * 5) (j := 1) tA3 (hS.2.1) rfl (by omega) rfl)) rfl ?_
        clear hE a; intro a hE
        refine d_take (v := Value.slice a1 z1.length cap1) p7_9_6 ns7_9 (by kernel_rfl) (by kernel_rfl) (fun _ _ _ h => h) hE wn_none rfl ⟨B_gL, (fun j u h => cell_to K_0 (hce j u h)), trivial⟩ (fun W hS => (st_move rfl)) rfl ?_
        clear hE a; intro a hE
        refine d_take (v := Value.int .i64 (i : Int)) p7_9_7 ns7_9 (by kernel_rfl) (by kernel_rfl) (fun _ _ _ h => h) hE wn_none rfl ⟨B_gL, (fun j u h => cell_to K_0 (hce j u h)), trivial⟩ (fun W hS => (st_move rfl)) rfl ?_
        clear hE a; intro a hE
        refine d_take (v := Value.pointer (some (ea a1 (i * 5)))) p7_9_8 ns7_9 (by kernel_rfl) (by kernel_rfl) (fun _ _ _ h => h) hE wn_none rfl ⟨B_gL, (fun j u h => cell_to K_0 (hce j u h)), trivial⟩ (fun W hS => (st_indexAddrR (i := i) (s := 5) Try.underlying55 tS61 hAe rfl rfl (by omega))) rfl ?_
        clear hE a; intro a hE
        refine d_take (v := Value.pointer (some (ea a1 (i * 5 + 2)))) p7_9_9 ns7_9 (by kernel_rfl) (by kernel_rfl) (fun _ _ _ h => h) hE wn_none rfl ⟨B_gL, (fun j u h => cell_to K_0 (hce j u h)), trivial⟩ (fun W hS => (st_fieldAddrR (off := i * 5) (f0 := 2) (o' := i * 5 + 2) Try.underlying61 rfl tS3 rfl (by omega) rfl)) rfl ?_
        clear hE a; intro a hE
        refine d_take (v := Value.int .i64 xb) p7_9_10 ns7_9 (by kernel_rfl) (by kernel_rfl) (fun _ _ _ h => h) hE wn_none rfl ⟨B_gL, (fun j u h => cell_to K_0 (hce j u h)), trivial⟩ (fun W hS => (st_loadR1 (off := i * 5) (j := 2) tA3 (hS.2.1) rfl (by omega) rfl)) rfl ?_
        clear hE a; intro a hE
        refine d_take (v := Value.slice a1 z1.length cap1) p7_9_11 ns7_9 (by kernel_rfl) (by kernel_rfl) (fun _ _ _ h => h) hE wn_none rfl ⟨B_gL, (fun j u h => cell_to K_0 (hce j u h)), trivial⟩ (fun W hS => (st_move rfl)) rfl ?_
        clear hE a; intro a hE
        refine d_take (v := Value.int .i64 (i : Int)) p7_9_12 ns7_9 (by kernel_rfl) (by kernel_rfl) (fun _ _ _ h => h) hE wn_none rfl ⟨B_gL, (fun j u h => cell_to K_0 (hce j u h)), trivial⟩ (fun W hS => (st_move rfl)) rfl ?_
        clear hE a; intro a hE
        refine d_take (v := Value.pointer (some (ea a1 (i * 5)))) p7_9_13 ns7_9 (by kernel_rfl) (by kernel_rfl) (fun _ _ _ h => h) hE wn_none rfl ⟨B_gL, (fun j u h => cell_to K_0 (hce j u h)), trivial⟩ (fun W hS => (st_indexAddrR (i := i) (s := 5) Try.underlying55 tS61 hAe rfl rfl (by omega))) rfl ?_
        clear hE a; intro a hE
        refine d_take (v := Value.pointer (some (ea a1 (i * 5 + 3)))) p7_9_14 ns7_9 (by kernel_rfl) (by kernel_rfl) (fun _ _ _ h => h) hE wn_none rfl ⟨B_gL, (fun j u h => cell_to K_0 (hce j u h)), trivial⟩ (fun W hS => (st_fieldAddrR (off := i * 5) (f0 := 3) (o' := i * 5 + 3) Try.underlying61 rfl tS3 rfl (by omega) rfl)) rfl ?_
        clear hE a; intro a hE
        refine d_take (v := Value.int .i64 xc) p7_9_15 ns7_9 (by kernel_rfl) (by kernel_rfl) (fun _ _ _ h => h) hE wn_none rfl ⟨B_gL, (fun j u h => cell_to K_0 (hce j u h)), trivial⟩ (fun W hS => (st_loadR1 (off := i * 5) (j := 3) tA3 (hS.2.1) rfl (by omega) rfl)) rfl ?_
        clear hE a; intro a hE
        refine d_one (by kernel_rfl) rfl (s_call (xs := [Operand.tmp 51, Operand.tmp 56, Operand.tmp 61, Operand.tmp 66]) (args := [Value.pointer (some ⟨gL, 0, none⟩), Value.int .i64 xa, Value.int .i64 xb, Value.int .i64 xc]) p7_9_16 hE wn_none rfl rfl Try.func29 cl29 (set_any gL gN _ _ f9 (nn : Int) xa xb xc _ B_gL B_gN MF9 n_gL_gN) ?_)
        rintro e w5 ⟨esm4, ckm4, rfl, MFm4, B_gN', hk⟩
        replace B_gL := kp_blk B_gL hk n_gL_gN
        replace K_0 := K_0.then_ hk (fun k h => by rw [show k = gN from h]; exact Or.inr z_0_gN)
        replace B_gN := B_gN'
        refine ⟨_, rfl, ?_⟩
        clear hE a; intro a hE
        refine ⟨⟨B_gL, (fun j u h => cell_to K_0 (hce j u h)), trivial⟩, ?_⟩
        refine d_end (by kernel_rfl) ?_
        refine x_normB ?_
        refine x_norm ?_
        refine c_regL R7_8_l ?_
        refine q0 p7_8_0 hE (st_move rfl) ?_
        clear hE a; intro a hE
        refine q0 p7_8_1 hE (st_add (z := (i : Int) + 1) rfl rfl (wr_i64 _ (by omega) (by omega))) ?_
        clear hE a; intro a hE
        refine q0 p7_8_2 hE (st_assign rfl) ?_
        clear hE a; intro a hE
        refine p_nil ?_
        refine x_norm ?_
        have MFx := MFm4
        exact ⟨i + 1, by omega, esm4, ckm4, _, En.sub hE ⟨rfl, rfl, rfl, rfl, rfl, rfl, rfl, rfl, trivial⟩, MFx, by omega, B_gL, B_gN, K_0⟩
      ·
        refine c_reg R7_7_l ?_
        refine q0 p7_7_0 hE (st_move rfl) ?_
        clear hE a; intro a hE
        refine q0 p7_7_1 hE (st_move rfl) ?_
        clear hE a; intro a hE
        refine q0 p7_7_2 hE (st_len Try.underlying55 rfl) ?_
        clear hE a; intro a hE
        refine q0 p7_7_3 hE (st_lss (b := true) rfl rfl (decide_eq_true hI1)) ?_
        clear hE a; intro a hE
        refine q0 p7_7_4 hE (st_move rfl) ?_
        clear hE a; intro a hE
        refine p_cons (s_still p7_7_5 hE (wn_some g7_7_4 rfl rfl) rfl (st_move rfl) ?_)
        clear hE a; intro a hE
        refine p_cons (s_still p7_7_6 hE (wn_some g7_7_4 rfl rfl) rfl (st_lss (b := false) rfl rfl (decide_eq_false hI2)) ?_)
        clear hE a; intro a hE
        refine q0 p7_7_7 hE (st_pick rfl rfl) ?_
        clear hE a; intro a hE
        refine p_nil ?_
        refine x_norm ?_
        refine c_cond (t := false) hE rfl ?_
        refine wp_exit ?_
        refine x_exit ?_
        refine x_exit ?_
        refine x_in ?_
        refine x_norm ?_
        refine c_reg R7_10_l ?_
        refine q0 p7_10_0 hE (st_move rfl) ?_
        clear hE a; intro a hE
        refine q0 p7_10_1 hE (st_move rfl) ?_
        clear hE a; intro a hE
        refine p_cons (s_call (xs := [Operand.tmp 68, Operand.tmp 69]) (args := [Value.pointer (some ⟨gL, 0, none⟩), Value.int .i64 (x : Int)]) p7_10_2 hE wn_none rfl rfl Try.func30 cl30 (hops_any gL gN _ nn _ _ x hxn hnn.2 _ B_gL B_gN MF9 n_gL_gN) ?_)
        rintro e w6 ⟨Ah, ch, hh, rfl, hch, ⟨hBh, hCh⟩, FAh, hk⟩
        replace B_gL := kp_blk B_gL hk (fun h => h)
        replace B_gN := kp_blk B_gN hk (fun h => h)
        replace K_0 := K_0.then_ hk (fun _ h => h.elim)
        have K_s7 := Kp.refl w6 (fun _ => False)
        refine ⟨_, rfl, ?_⟩
        clear hE a; intro a hE
        refine q0 p7_10_3 hE (st_assign rfl) ?_
        clear hE a; intro a hE
        refine p_nil ?_
        refine x_norm ?_
        refine wp_seq ?_
        refine c_reg R7_11_l ?_
        refine q0 p7_11_0 hE (st_move rfl) ?_
        clear hE a; intro a hE
        refine q0 p7_11_1 hE (st_len Try.underlying52 rfl) ?_
        clear hE a; intro a hE
        refine q0 p7_11_2 hE (st_move rfl) ?_
        clear hE a; intro a hE
        refine q0 p7_11_3 hE (st_neq (b := false) rfl rfl (by simp)) ?_
        clear hE a; intro a hE
        refine q0 p7_11_4 hE (st_move rfl) ?_
        clear hE a; intro a hE
        refine p_cons (s_still p7_11_5 hE (wn_some g7_11_4 rfl rfl) rfl (st_move rfl) ?_)
        clear hE a; intro a hE
        refine p_cons (s_still p7_11_6 hE (wn_some g7_11_4 rfl rfl) rfl (st_move rfl) ?_)
        clear hE a; intro a hE
        refine p_cons (s_still p7_11_7 hE (wn_some g7_11_4 rfl rfl) rfl (st_indexAddrC (i := x) Try.underlying52 tS3 (FAh _ K_s7) rfl rfl (by omega)) ?_)
        clear hE a; intro a hE
        refine p_cons (s_still (v := Value.int .i64 (rd hh (x : Int))) p7_11_8 hE (wn_some g7_11_4 rfl rfl) rfl (st_loadC (i := x) tA3 (FAh _ K_s7) (by omega) rfl) ?_)
        clear hE a; intro a hE
        refine p_cons (s_still p7_11_9 hE (wn_some g7_11_4 rfl rfl) rfl (st_neq (b := false) rfl rfl (by rw [rd_at, hBh.zero]; rfl)) ?_)
        clear hE a; intro a hE
        refine q0 p7_11_10 hE (st_pick rfl rfl) ?_
        clear hE a; intro a hE
        refine p_nil ?_
        refine x_norm ?_
        refine c_cond (t := false) hE rfl ?_
        refine wp_skip ?_
        refine x_norm ?_
        refine wp_seq ?_
        refine c_reg R7_13_l ?_
        refine q0 p7_13_0 hE (st_assign rfl) ?_
        clear hE a; intro a hE
        refine p_nil ?_
        refine x_norm ?_
        refine wp_block ?_
        refine c_loop (α := Nat) (fun p a W => En 163 a [(0, Value.int .i64 (nn : Int)), (1, Value.slice a1 z1.length cap1), (2, Value.int .i64 (x : Int)), (7, Value.pointer (some ⟨gL, 0, none⟩)), (8, Value.int .i64 0), (40, Value.bool false), (9, Value.int .i64 (i : Int)), (48, Value.bool false), (10, Value.slice Ah nn ch), (81, Value.bool false), (11, Value.int .i64 (p : Int))] ∧ p ≤ nn ∧ W.heap[gL]? = some (.cells #[Value.int .i64 (nn : Int), Value.map (some gN)] 83 (0, 0)) ∧ W.heap[gN]? = some (.map es9 ck9) ∧ Kp w W (fun _ => False) ∧ Kp w6 W (fun _ => False)) (fun p => nn - p) (0) ?_ ?_
        ·
          exact ⟨En.sub hE ⟨rfl, rfl, rfl, rfl, rfl, rfl, rfl, rfl, rfl, rfl, rfl, trivial⟩, Nat.zero_le _, B_gL, B_gN, K_0, K_s7⟩
        ·
          clear hE a
          rintro p a w8 ⟨hE, hp9, B_gL, B_gN, K_0, K_s7⟩
          refine wp_seq ?_
          rcases Decidable.em ((p : Int) < (nn : Int)) with hP1 | hP1
          ·
            refine c_reg R7_14_l ?_
            refine q0 p7_14_0 hE (st_move rfl) ?_
            clear hE a; intro a hE
            refine q0 p7_14_1 hE (st_move rfl) ?_
            clear hE a; intro a hE
            refine q0 p7_14_2 hE (st_lss (b := true) rfl rfl (decide_eq_true hP1)) ?_
            clear hE a; intro a hE
            refine p_nil ?_
            refine x_norm ?_
            refine c_cond (t := true) hE rfl ?_
            refine wp_skip ?_
            refine x_norm ?_
            refine wp_seq ?_
            refine wp_block ?_
            refine c_reg R7_16_l ?_
            refine q0 p7_16_0 hE (st_move rfl) ?_
            clear hE a; intro a hE
            refine q0 p7_16_1 hE (st_move rfl) ?_
            clear hE a; intro a hE
            refine p_cons (s_call (xs := [Operand.tmp 87, Operand.tmp 88]) (args := [Value.pointer (some ⟨gL, 0, none⟩), Value.int .i64 (p : Int)]) p7_16_2 hE wn_none rfl rfl Try.func31 cl31 (nbs_any gL gN _ nn _ f9 (p : Int) hnn.2 _ B_gL B_gN MF9 n_gL_gN) ?_)
            rintro e w9 ⟨An, cn, rfl, hcn, FAn, hgn, hk⟩
            replace B_gL := kp_blk B_gL hk (fun h => h)
            replace B_gN := kp_blk B_gN hk (fun h => h)
            replace K_0 := K_0.then_ hk (fun _ h => h.elim)
            replace K_s7 := K_s7.then_ hk (fun _ h => h.elim)
            have K_s10 := Kp.refl w9 (fun _ => False)
            refine ⟨_, rfl, ?_⟩
            clear hE a; intro a hE
            refine q0 p7_16_3 hE (st_assign rfl) ?_
            clear hE a; intro a hE
            refine p_nil ?_
            refine x_norm ?_
            refine c_reg R7_17_l ?_
            refine q0 p7_17_0 hE (st_assign rfl) ?_
            clear hE a; intro a hE
            refine p_nil ?_
            refine x_norm ?_
            refine wp_block ?_
            refine c_loop (α := Nat) (fun q a W => En 163 a [(0, Value.int .i64 (nn : Int)), (1, Value.slice a1 z1.length cap1), (2, Value.int .i64 (x : Int)), (7, Value.pointer (some ⟨gL, 0, none⟩)), (8, Value.int .i64 0), (40, Value.bool false), (9, Value.int .i64 (i : Int)), (48, Value.bool false), (10, Value.slice Ah nn ch), (81, Value.bool false), (11, Value.int .i64 (p : Int)), (84, Value.bool true), (12, Value.slice An ((nbs (nn : Int) f9 (p : Int) nn).length) cn), (13, Value.int .i64 (q : Int))] ∧ q ≤ (nbs (nn : Int) f9 (p : Int) nn).length ∧ W.heap[gL]? = some (.cells #[Value.int .i64 (nn : Int), Value.map (some gN)] 83 (0, 0)) ∧ W.heap[gN]? = some (.map es9 ck9) ∧ Kp w W (fun _ => False) ∧ Kp w6 W (fun _ => False) ∧ Kp w9 W (fun _ => False)) (fun q => (nbs (nn : Int) f9 (p : Int) nn).length - q) (0) ?_ ?_
            ·
              exact ⟨En.sub hE ⟨rfl, rfl, rfl, rfl, rfl, rfl, rfl, rfl, rfl, rfl, rfl, rfl, rfl, rfl, trivial⟩, Nat.zero_le _, B_gL, B_gN, K_0, K_s7, K_s10⟩
            ·
              clear hE a
              rintro q a w11 ⟨hE, hq9, B_gL, B_gN, K_0, K_s7, K_s10⟩
              refine wp_seq ?_
              rcases Decidable.em ((q : Int) < ((nbs (nn : Int) f9 (p : Int) nn).length : Int)) with hQ1 | hQ1
              ·
                refine c_reg R7_18_l ?_
                refine q0 p7_18_0 hE (st_move rfl) ?_
                clear hE a; intro a hE
                refine q0 p7_18_1 hE (st_move rfl) ?_
                clear hE a; intro a hE
                refine q0 p7_18_2 hE (st_len Try.underlying52 rfl) ?_
                clear hE a; intro a hE
                refine q0 p7_18_3 hE (st_lss (b := true) rfl rfl (decide_eq_true hQ1)) ?_
                clear hE a; intro a hE
                refine p_nil ?_
                refine x_norm ?_
                refine c_cond (t := true) hE rfl ?_
                refine wp_skip ?_
                refine x_norm ?_
                refine wp_seq ?_
                refine wp_block ?_
                refine c_reg R7_20_l ?_
                refine q0 p7_20_0 hE (st_move rfl) ?_
                clear hE a; intro a hE
                refine q0 p7_20_1 hE (st_move rfl) ?_
                clear hE a; intro a hE
                refine q0 p7_20_2 hE (st_indexAddrC (i := q) Try.underlying52 tS3 (FAn _ (K_s10.mono (fun _ h => h.elim))) rfl rfl (by omega)) ?_
                clear hE a; intro a hE
                refine q0 (v := Value.int .i64 (rd (nbs (nn : Int) f9 (p : Int) nn) (q : Int))) p7_20_3 hE (st_loadC (i := q) tA3 (FAn _ (K_s10.mono (fun _ h => h.elim))) (by omega) rfl) ?_
                clear hE a; intro a hE
                refine q0 p7_20_4 hE (st_assign rfl) ?_
                clear hE a; intro a hE
                refine p_nil ?_
                refine x_norm ?_
                refine c_reg R7_21_l ?_
                have hnl := nbs_len (nn : Int) f9 (p : Int) nn
                have hjn : (nbs (nn : Int) f9 (p : Int) nn).length = (nbN nn f9 p).length := by rw [nbs_nat, List.length_map]
                have hjl : q < (nbN nn f9 p).length := by omega
                obtain ⟨b, hb⟩ : ∃ b, (nbN nn f9 p)[q]? = some b := ⟨_, List.getElem?_eq_getElem hjl⟩
                have hrd : (rd (nbs (nn : Int) f9 (p : Int) nn) (q : Int)) = (b : Int) := by rw [nbs_nat, rd_map _ _ hjl, (List.getElem?_eq_some_iff.1 hb).2]
                rw [hrd] at hE
                have hbE := nbN_mem.1 (List.mem_of_getElem? hb)
                have hbn := hbE.1
                have hpn : p < nn := by omega
                have hc1 := hbE.2
                have hsy := cost_sym (nn : Int) f9 (b : Int) (p : Int)
                have hbE2 : Ed nn f9 b p := ⟨hpn, by rw [hsy]; exact hc1⟩
                have hl1 := hCh p b hpn hbn hbE
                have hl2 := hCh b p hbn hpn hbE2
                rw [← rd_at, ← rd_at] at hl1 hl2
                have hlo1 := hBh.low p hpn
                have hlo2 := hBh.low b hbn
                rw [← rd_at] at hlo1 hlo2
                refine q0 p7_21_0 hE (st_move rfl) ?_
                clear hE a; intro a hE
                refine q0 p7_21_1 hE (st_move rfl) ?_
                clear hE a; intro a hE
                refine q0 p7_21_2 hE (st_move rfl) ?_
                clear hE a; intro a hE
                refine p_cons (s_call (xs := [Operand.tmp 101, Operand.tmp 102, Operand.tmp 103]) (args := [Value.pointer (some ⟨gL, 0, none⟩), Value.int .i64 (p : Int), Value.int .i64 (b : Int)]) p7_21_3 hE wn_none rfl rfl Try.func32 cl32 (cost_any gL gN _ _ f9 (nn : Int) (p : Int) (b : Int) _ B_gL B_gN MF9 n_gL_gN) ?_)
                rintro e w12 ⟨rfl, hk⟩
                replace B_gL := kp_blk B_gL hk (fun h => h)
                replace B_gN := kp_blk B_gN hk (fun h => h)
                replace K_0 := K_0.then_ hk (fun _ h => h.elim)
                replace K_s7 := K_s7.then_ hk (fun _ h => h.elim)
                replace K_s10 := K_s10.then_ hk (fun _ h => h.elim)
                refine ⟨_, rfl, ?_⟩
                clear hE a; intro a hE
                refine q0 p7_21_4 hE (st_move rfl) ?_
                clear hE a; intro a hE
                refine q0 p7_21_5 hE (st_extract rfl rfl) ?_
                clear hE a; intro a hE
                refine q0 p7_21_6 hE (st_extract rfl rfl) ?_
                clear hE a; intro a hE
                refine q0 p7_21_7 hE (st_assign rfl) ?_
                clear hE a; intro a hE
                refine q0 p7_21_8 hE (st_assign rfl) ?_
                clear hE a; intro a hE
                refine p_nil ?_
                refine x_norm ?_
                refine c_reg R7_22_l ?_
                refine q0 p7_22_0 hE (st_move rfl) ?_
                clear hE a; intro a hE
                refine q0 p7_22_1 hE (st_move rfl) ?_
                clear hE a; intro a hE
                refine q0 p7_22_2 hE (st_move rfl) ?_
                clear hE a; intro a hE
                refine p_cons (s_call (xs := [Operand.tmp 108, Operand.tmp 109, Operand.tmp 110]) (args := [Value.pointer (some ⟨gL, 0, none⟩), Value.int .i64 (b : Int), Value.int .i64 (p : Int)]) p7_22_3 hE wn_none rfl rfl Try.func32 cl32 (cost_any gL gN _ _ f9 (nn : Int) (b : Int) (p : Int) _ B_gL B_gN MF9 n_gL_gN) ?_)
                rintro e w13 ⟨rfl, hk⟩
                replace B_gL := kp_blk B_gL hk (fun h => h)
                replace B_gN := kp_blk B_gN hk (fun h => h)
                replace K_0 := K_0.then_ hk (fun _ h => h.elim)
                replace K_s7 := K_s7.then_ hk (fun _ h => h.elim)
                replace K_s10 := K_s10.then_ hk (fun _ h => h.elim)
                refine ⟨_, rfl, ?_⟩
                clear hE a; intro a hE
                refine q0 p7_22_4 hE (st_move rfl) ?_
                clear hE a; intro a hE
                refine q0 p7_22_5 hE (st_extract rfl rfl) ?_
                clear hE a; intro a hE
                refine q0 p7_22_6 hE (st_extract rfl rfl) ?_
                clear hE a; intro a hE
                refine q0 p7_22_7 hE (st_assign rfl) ?_
                clear hE a; intro a hE
                refine q0 p7_22_8 hE (st_assign rfl) ?_
                clear hE a; intro a hE
                refine p_nil ?_
                refine x_norm ?_
                rcases Decidable.em (0 ≤ rd hh (p : Int)) with hV | hV
                ·
                  refine c_drawS (S := fun W => W.heap[gL]? = some (.cells #[Value.int .i64 (nn : Int), Value.map (some gN)] 83 (0, 0)) ∧ W.heap[gN]? = some (.map es9 ck9) ∧ Kd.C (Kd.int .i64) W Ah nn hh ∧ True) rfl rfl (listed := #[false, false, false, false, false, false, false, false, false, false, false, false, false, false, false, false, false, false, false, false, false, false, false, false, false, false, false, false, false, false, false, false, false, false, false, false, false, false, false, false, false, false, false, false, false, false, false, false]) rfl ?_
                  intro w14 hh hk
                  replace B_gL := kp_blk B_gL hk (fun h => h)
                  replace B_gN := kp_blk B_gN hk (fun h => h)
                  replace K_0 := K_0.then_ hk (fun _ h => h.elim)
                  replace K_s7 := K_s7.then_ hk (fun _ h => h.elim)
                  replace K_s10 := K_s10.then_ hk (fun _ h => h.elim)
                  clear hh hk
                  refine d_take (v := Value.int .i64 ((costP (nn : Int) f9 (p : Int) (b : Int)).2)) p7_23_0 ns7_23 (by kernel_rfl) (by kernel_rfl) (fun _ _ _ h => h) hE wn_none rfl ⟨B_gL, B_gN, (FAh _ K_s7), trivial⟩ (fun W hS => (st_move rfl)) rfl ?_
                  clear hE a; intro a hE
                  refine d_take (v := Value.bool false) p7_23_1 ns7_23 (by kernel_rfl) (by kernel_rfl) (fun _ _ _ h => h) hE wn_none rfl ⟨B_gL, B_gN, (FAh _ K_s7), trivial⟩ (fun W hS => (st_neq (b := false) rfl rfl (by first | (rw [hc1]; rfl) | (rw [hsy, hc1]; rfl)))) rfl ?_
                  clear hE a; intro a hE
                  refine d_take (v := Value.bool false) p7_23_2 ns7_23 (by kernel_rfl) (by kernel_rfl) (fun _ _ _ h => h) hE wn_none rfl ⟨B_gL, B_gN, (FAh _ K_s7), trivial⟩ (fun W hS => (st_move rfl)) rfl ?_
                  clear hE a; intro a hE
                  refine d_take (v := Value.int .i64 ((costP (nn : Int) f9 (b : Int) (p : Int)).2)) p7_23_3 ns7_23 (by kernel_rfl) (by kernel_rfl) (fun _ _ _ h => h) hE (wn_some g7_23_2 rfl rfl) rfl ⟨B_gL, B_gN, (FAh _ K_s7), trivial⟩ (fun W hS => (st_move rfl)) rfl ?_
                  clear hE a; intro a hE
                  refine d_take (v := Value.bool false) p7_23_4 ns7_23 (by kernel_rfl) (by kernel_rfl) (fun _ _ _ h => h) hE (wn_some g7_23_2 rfl rfl) rfl ⟨B_gL, B_gN, (FAh _ K_s7), trivial⟩ (fun W hS => (st_neq (b := false) rfl rfl (by first | (rw [hc1]; rfl) | (rw [hsy, hc1]; rfl)))) rfl ?_
                  clear hE a; intro a hE
                  refine d_take (v := Value.bool false) p7_23_5 ns7_23 (by kernel_rfl) (by kernel_rfl) (fun _ _ _ h => h) hE wn_none rfl ⟨B_gL, B_gN, (FAh _ K_s7), trivial⟩ (fun W hS => (st_pick rfl rfl)) rfl ?_
                  clear hE a; intro a hE
                  refine d_take (v := Value.bool false) p7_23_6 ns7_23 (by kernel_rfl) (by kernel_rfl) (fun _ _ _ h => h) hE wn_none rfl ⟨B_gL, B_gN, (FAh _ K_s7), trivial⟩ (fun W hS => (st_move rfl)) rfl ?_
                  clear hE a; intro a hE
                  refine d_take (v := Value.int .i64 ((costP (nn : Int) f9 (p : Int) (b : Int)).1)) p7_23_7 ns7_23 (by kernel_rfl) (by kernel_rfl) (fun _ _ _ h => h) hE (wn_some g7_23_6 rfl rfl) rfl ⟨B_gL, B_gN, (FAh _ K_s7), trivial⟩ (fun W hS => (st_move rfl)) rfl ?_
                  clear hE a; intro a hE
                  refine d_take (v := Value.int .i64 ((costP (nn : Int) f9 (b : Int) (p : Int)).1)) p7_23_8 ns7_23 (by kernel_rfl) (by kernel_rfl) (fun _ _ _ h => h) hE (wn_some g7_23_6 rfl rfl) rfl ⟨B_gL, B_gN, (FAh _ K_s7), trivial⟩ (fun W hS => (st_move rfl)) rfl ?_
                  clear hE a; intro a hE
                  refine d_take (v := Value.bool false) p7_23_9 ns7_23 (by kernel_rfl) (by kernel_rfl) (fun _ _ _ h => h) hE (wn_some g7_23_6 rfl rfl) rfl ⟨B_gL, B_gN, (FAh _ K_s7), trivial⟩ (fun W hS => (st_neq (b := false) rfl rfl (by rw [hsy]; simp))) rfl ?_
                  clear hE a; intro a hE
                  refine d_take (v := Value.bool false) p7_23_10 ns7_23 (by kernel_rfl) (by kernel_rfl) (fun _ _ _ h => h) hE wn_none rfl ⟨B_gL, B_gN, (FAh _ K_s7), trivial⟩ (fun W hS => (st_pick rfl rfl)) rfl ?_
                  clear hE a; intro a hE
                  refine d_take (v := Value.bool false) p7_23_11 ns7_23 (by kernel_rfl) (by kernel_rfl) (fun _ _ _ h => h) hE wn_none rfl ⟨B_gL, B_gN, (FAh _ K_s7), trivial⟩ (fun W hS => (st_move rfl)) rfl ?_
                  clear hE a; intro a hE
                  refine d_take (v := Value.slice Ah nn ch) p7_23_12 ns7_23 (by kernel_rfl) (by kernel_rfl) (fun _ _ _ h => h) hE (wn_some g7_23_11 rfl rfl) rfl ⟨B_gL, B_gN, (FAh _ K_s7), trivial⟩ (fun W hS => (st_move rfl)) rfl ?_
                  clear hE a; intro a hE
                  refine d_take (v := Value.int .i64 (p : Int)) p7_23_13 ns7_23 (by kernel_rfl) (by kernel_rfl) (fun _ _ _ h => h) hE (wn_some g7_23_11 rfl rfl) rfl ⟨B_gL, B_gN, (FAh _ K_s7), trivial⟩ (fun W hS => (st_move rfl)) rfl ?_
                  clear hE a; intro a hE
                  refine d_take (v := Value.pointer (some (ea Ah p))) p7_23_14 ns7_23 (by kernel_rfl) (by kernel_rfl) (fun _ _ _ h => h) hE (wn_some g7_23_11 rfl rfl) rfl ⟨B_gL, B_gN, (FAh _ K_s7), trivial⟩ (fun W hS => (st_indexAddrS (i := p) Try.underlying52 tS3 (C_at (FAh _ K_s7) (show p < _ by omega)).1 rfl rfl (by omega))) rfl ?_
                  clear hE a; intro a hE
                  refine d_take (v := Value.int .i64 (rd hh (p : Int))) p7_23_15 ns7_23 (by kernel_rfl) (by kernel_rfl) (fun _ _ _ h => h) hE (wn_some g7_23_11 rfl rfl) rfl ⟨B_gL, B_gN, (FAh _ K_s7), trivial⟩ (fun W hS => (st_loadC (i := p) tA3 (hS.2.2.1) (by omega) rfl)) rfl ?_
                  clear hE a; intro a hE
                  refine d_take (v := Value.bool false) p7_23_16 ns7_23 (by kernel_rfl) (by kernel_rfl) (fun _ _ _ h => h) hE (wn_some g7_23_11 rfl rfl) rfl ⟨B_gL, B_gN, (FAh _ K_s7), trivial⟩ (fun W hS => (st_lss (b := false) rfl rfl (decide_eq_false (by omega)))) rfl ?_
                  clear hE a; intro a hE
                  refine d_take (v := Value.slice Ah nn ch) p7_23_17 ns7_23 (by kernel_rfl) (by kernel_rfl) (fun _ _ _ h => h) hE (wn_some g7_23_11 rfl rfl) rfl ⟨B_gL, B_gN, (FAh _ K_s7), trivial⟩ (fun W hS => (st_move rfl)) rfl ?_
                  clear hE a; intro a hE
                  refine d_take (v := Value.int .i64 (b : Int)) p7_23_18 ns7_23 (by kernel_rfl) (by kernel_rfl) (fun _ _ _ h => h) hE (wn_some g7_23_11 rfl rfl) rfl ⟨B_gL, B_gN, (FAh _ K_s7), trivial⟩ (fun W hS => (st_move rfl)) rfl ?_
                  clear hE a; intro a hE
                  refine d_take (v := Value.pointer (some (ea Ah b))) p7_23_19 ns7_23 (by kernel_rfl) (by kernel_rfl) (fun _ _ _ h => h) hE (wn_some g7_23_11 rfl rfl) rfl ⟨B_gL, B_gN, (FAh _ K_s7), trivial⟩ (fun W hS => (st_indexAddrS (i := b) Try.underlying52 tS3 (C_at (FAh _ K_s7) (show b < _ by omega)).1 rfl rfl (by omega))) rfl ?_
                  clear hE a; intro a hE
                  refine d_take (v := Value.int .i64 (rd hh (b : Int))) p7_23_20 ns7_23 (by kernel_rfl) (by kernel_rfl) (fun _ _ _ h => h) hE (wn_some g7_23_11 rfl rfl) rfl ⟨B_gL, B_gN, (FAh _ K_s7), trivial⟩ (fun W hS => (st_loadC (i := b) tA3 (hS.2.2.1) (by omega) rfl)) rfl ?_
                  clear hE a; intro a hE
                  refine d_take (v := Value.bool false) p7_23_21 ns7_23 (by kernel_rfl) (by kernel_rfl) (fun _ _ _ h => h) hE (wn_some g7_23_11 rfl rfl) rfl ⟨B_gL, B_gN, (FAh _ K_s7), trivial⟩ (fun W hS => (st_lss (b := false) rfl rfl (decide_eq_false (by omega)))) rfl ?_
                  clear hE a; intro a hE
                  refine d_take (v := Value.bool false) p7_23_22 ns7_23 (by kernel_rfl) (by kernel_rfl) (fun _ _ _ h => h) hE (wn_some g7_23_11 rfl rfl) rfl ⟨B_gL, B_gN, (FAh _ K_s7), trivial⟩ (fun W hS => (st_neqB (b := false) Try.underlying4 rfl rfl rfl)) rfl ?_
                  clear hE a; intro a hE
                  refine d_take (v := Value.bool false) p7_23_23 ns7_23 (by kernel_rfl) (by kernel_rfl) (fun _ _ _ h => h) hE wn_none rfl ⟨B_gL, B_gN, (FAh _ K_s7), trivial⟩ (fun W hS => (st_pick rfl rfl)) rfl ?_
                  clear hE a; intro a hE
                  refine d_take (v := Value.bool false) p7_23_24 ns7_23 (by kernel_rfl) (by kernel_rfl) (fun _ _ _ h => h) hE wn_none rfl ⟨B_gL, B_gN, (FAh _ K_s7), trivial⟩ (fun W hS => (st_move rfl)) rfl ?_
                  clear hE a; intro a hE
                  refine d_take (v := Value.slice Ah nn ch) p7_23_25 ns7_23 (by kernel_rfl) (by kernel_rfl) (fun _ _ _ h => h) hE (wn_some g7_23_24 rfl rfl) rfl ⟨B_gL, B_gN, (FAh _ K_s7), trivial⟩ (fun W hS => (st_move rfl)) rfl ?_
                  clear hE a; intro a hE
                  refine d_take (v := Value.int .i64 (p : Int)) p7_23_26 ns7_23 (by kernel_rfl) (by kernel_rfl) (fun _ _ _ h => h) hE (wn_some g7_23_24 rfl rfl) rfl ⟨B_gL, B_gN, (FAh _ K_s7), trivial⟩ (fun W hS => (st_move rfl)) rfl ?_
                  clear hE a; intro a hE
                  refine d_take (v := Value.pointer (some (ea Ah p))) p7_23_27 ns7_23 (by kernel_rfl) (by kernel_rfl) (fun _ _ _ h => h) hE (wn_some g7_23_24 rfl rfl) rfl ⟨B_gL, B_gN, (FAh _ K_s7), trivial⟩ (fun W hS => (st_indexAddrS (i := p) Try.underlying52 tS3 (C_at (FAh _ K_s7) (show p < _ by omega)).1 rfl rfl (by omega))) rfl ?_
                  clear hE a; intro a hE
                  refine d_take (v := Value.int .i64 (rd hh (p : Int))) p7_23_28 ns7_23 (by kernel_rfl) (by kernel_rfl) (fun _ _ _ h => h) hE (wn_some g7_23_24 rfl rfl) rfl ⟨B_gL, B_gN, (FAh _ K_s7), trivial⟩ (fun W hS => (st_loadC (i := p) tA3 (hS.2.2.1) (by omega) rfl)) rfl ?_
                  clear hE a; intro a hE
                  refine d_take (v := Value.slice Ah nn ch) p7_23_29 ns7_23 (by kernel_rfl) (by kernel_rfl) (fun _ _ _ h => h) hE (wn_some g7_23_24 rfl rfl) rfl ⟨B_gL, B_gN, (FAh _ K_s7), trivial⟩ (fun W hS => (st_move rfl)) rfl ?_
                  clear hE a; intro a hE
                  refine d_take (v := Value.int .i64 (b : Int)) p7_23_30 ns7_23 (by kernel_rfl) (by kernel_rfl) (fun _ _ _ h => h) hE (wn_some g7_23_24 rfl rfl) rfl ⟨B_gL, B_gN, (FAh _ K_s7), trivial⟩ (fun W hS => (st_move rfl)) rfl ?_
                  clear hE a; intro a hE
                  refine d_take (v := Value.pointer (some (ea Ah b))) p7_23_31 ns7_23 (by kernel_rfl) (by kernel_rfl) (fun _ _ _ h => h) hE (wn_some g7_23_24 rfl rfl) rfl ⟨B_gL, B_gN, (FAh _ K_s7), trivial⟩ (fun W hS => (st_indexAddrS (i := b) Try.underlying52 tS3 (C_at (FAh _ K_s7) (show b < _ by omega)).1 rfl rfl (by omega))) rfl ?_
                  clear hE a; intro a hE
                  refine d_take (v := Value.int .i64 (rd hh (b : Int))) p7_23_32 ns7_23 (by kernel_rfl) (by kernel_rfl) (fun _ _ _ h => h) hE (wn_some g7_23_24 rfl rfl) rfl ⟨B_gL, B_gN, (FAh _ K_s7), trivial⟩ (fun W hS => (st_loadC (i := b) tA3 (hS.2.2.1) (by omega) rfl)) rfl ?_
                  clear hE a; intro a hE
                  refine d_take (v := Value.int .i64 ((rd hh (p : Int)) - (rd hh (b : Int)))) p7_23_33 ns7_23 (by kernel_rfl) (by kernel_rfl) (fun _ _ _ h => h) hE (wn_some g7_23_24 rfl rfl) rfl ⟨B_gL, B_gN, (FAh _ K_s7), trivial⟩ (fun W hS => (st_sub (z := (rd hh (p : Int)) - (rd hh (b : Int))) rfl rfl (wr_i64 _ (by omega) (by omega)))) rfl ?_
                  clear hE a; intro a hE
                  refine d_take (v := Value.bool false) p7_23_34 ns7_23 (by kernel_rfl) (by kernel_rfl) (fun _ _ _ h => h) hE (wn_some g7_23_24 rfl rfl) rfl ⟨B_gL, B_gN, (FAh _ K_s7), trivial⟩ (fun W hS => (st_gtr (b := false) rfl rfl (decide_eq_false (by omega)))) rfl ?_
                  clear hE a; intro a hE
                  refine d_take (v := Value.bool false) p7_23_35 ns7_23 (by kernel_rfl) (by kernel_rfl) (fun _ _ _ h => h) hE wn_none rfl ⟨B_gL, B_gN, (FAh _ K_s7), trivial⟩ (fun W hS => (st_pick rfl rfl)) rfl ?_
                  clear hE a; intro a hE
                  refine d_take (v := Value.bool false) p7_23_36 ns7_23 (by kernel_rfl) (by kernel_rfl) (fun _ _ _ h => h) hE wn_none rfl ⟨B_gL, B_gN, (FAh _ K_s7), trivial⟩ (fun W hS => (st_move rfl)) rfl ?_
                  clear hE a; intro a hE
                  refine d_take (v := Value.slice Ah nn ch) p7_23_37 ns7_23 (by kernel_rfl) (by kernel_rfl) (fun _ _ _ h => h) hE (wn_some g7_23_36 rfl rfl) rfl ⟨B_gL, B_gN, (FAh _ K_s7), trivial⟩ (fun W hS => (st_move rfl)) rfl ?_
                  clear hE a; intro a hE
                  refine d_take (v := Value.int .i64 (b : Int)) p7_23_38 ns7_23 (by kernel_rfl) (by kernel_rfl) (fun _ _ _ h => h) hE (wn_some g7_23_36 rfl rfl) rfl ⟨B_gL, B_gN, (FAh _ K_s7), trivial⟩ (fun W hS => (st_move rfl)) rfl ?_
                  clear hE a; intro a hE
                  refine d_take (v := Value.pointer (some (ea Ah b))) p7_23_39 ns7_23 (by kernel_rfl) (by kernel_rfl) (fun _ _ _ h => h) hE (wn_some g7_23_36 rfl rfl) rfl ⟨B_gL, B_gN, (FAh _ K_s7), trivial⟩ (fun W hS => (st_indexAddrS (i := b) Try.underlying52 tS3 (C_at (FAh _ K_s7) (show b < _ by omega)).1 rfl rfl (by omega))) rfl ?_
                  clear hE a; intro a hE
                  refine d_take (v := Value.int .i64 (rd hh (b : Int))) p7_23_40 ns7_23 (by kernel_rfl) (by kernel_rfl) (fun _ _ _ h => h) hE (wn_some g7_23_36 rfl rfl) rfl ⟨B_gL, B_gN, (FAh _ K_s7), trivial⟩ (fun W hS => (st_loadC (i := b) tA3 (hS.2.2.1) (by omega) rfl)) rfl ?_
                  clear hE a; intro a hE
                  refine d_take (v := Value.slice Ah nn ch) p7_23_41 ns7_23 (by kernel_rfl) (by kernel_rfl) (fun _ _ _ h => h) hE (wn_some g7_23_36 rfl rfl) rfl ⟨B_gL, B_gN, (FAh _ K_s7), trivial⟩ (fun W hS => (st_move rfl)) rfl ?_
                  clear hE a; intro a hE
                  refine d_take (v := Value.int .i64 (p : Int)) p7_23_42 ns7_23 (by kernel_rfl) (by kernel_rfl) (fun _ _ _ h => h) hE (wn_some g7_23_36 rfl rfl) rfl ⟨B_gL, B_gN, (FAh _ K_s7), trivial⟩ (fun W hS => (st_move rfl)) rfl ?_
                  clear hE a; intro a hE
                  refine d_take (v := Value.pointer (some (ea Ah p))) p7_23_43 ns7_23 (by kernel_rfl) (by kernel_rfl) (fun _ _ _ h => h) hE (wn_some g7_23_36 rfl rfl) rfl ⟨B_gL, B_gN, (FAh _ K_s7), trivial⟩ (fun W hS => (st_indexAddrS (i := p) Try.underlying52 tS3 (C_at (FAh _ K_s7) (show p < _ by omega)).1 rfl rfl (by omega))) rfl ?_
                  clear hE a; intro a hE
                  refine d_take (v := Value.int .i64 (rd hh (p : Int))) p7_23_44 ns7_23 (by kernel_rfl) (by kernel_rfl) (fun _ _ _ h => h) hE (wn_some g7_23_36 rfl rfl) rfl ⟨B_gL, B_gN, (FAh _ K_s7), trivial⟩ (fun W hS => (st_loadC (i := p) tA3 (hS.2.2.1) (by omega) rfl)) rfl ?_
                  clear hE a; intro a hE
                  refine d_take (v := Value.int .i64 ((rd hh (b : Int)) - (rd hh (p : Int)))) p7_23_45 ns7_23 (by kernel_rfl) (by kernel_rfl) (fun _ _ _ h => h) hE (wn_some g7_23_36 rfl rfl) rfl ⟨B_gL, B_gN, (FAh _ K_s7), trivial⟩ (fun W hS => (st_sub (z := (rd hh (b : Int)) - (rd hh (p : Int))) rfl rfl (wr_i64 _ (by omega) (by omega)))) rfl ?_
                  clear hE a; intro a hE
                  refine d_take (v := Value.bool false) p7_23_46 ns7_23 (by kernel_rfl) (by kernel_rfl) (fun _ _ _ h => h) hE (wn_some g7_23_36 rfl rfl) rfl ⟨B_gL, B_gN, (FAh _ K_s7), trivial⟩ (fun W hS => (st_gtr (b := false) rfl rfl (decide_eq_false (by omega)))) rfl ?_
                  clear hE a; intro a hE
                  refine d_take (v := Value.bool false) p7_23_47 ns7_23 (by kernel_rfl) (by kernel_rfl) (fun _ _ _ h => h) hE wn_none rfl ⟨B_gL, B_gN, (FAh _ K_s7), trivial⟩ (fun W hS => (st_pick rfl rfl)) rfl ?_
                  clear hE a; intro a hE
                  refine d_end (by kernel_rfl) ?_
                  refine x_norm ?_
                  refine c_cond (t := false) hE rfl ?_
                  refine wp_skip ?_
                  refine x_normB ?_
                  refine x_norm ?_
                  refine c_regL R7_19_l ?_
                  refine q0 p7_19_0 hE (st_move rfl) ?_
                  clear hE a; intro a hE
                  refine q0 p7_19_1 hE (st_add (z := (q : Int) + 1) rfl rfl (wr_i64 _ (by omega) (by omega))) ?_
                  clear hE a; intro a hE
                  refine q0 p7_19_2 hE (st_assign rfl) ?_
                  clear hE a; intro a hE
                  refine p_nil ?_
                  refine x_norm ?_
                  exact ⟨q + 1, by omega, En.sub hE ⟨rfl, rfl, rfl, rfl, rfl, rfl, rfl, rfl, rfl, rfl, rfl, rfl, rfl, rfl, trivial⟩, by omega, B_gL, B_gN, K_0, K_s7, K_s10⟩
                ·
                  refine c_drawS (S := fun W => W.heap[gL]? = some (.cells #[Value.int .i64 (nn : Int), Value.map (some gN)] 83 (0, 0)) ∧ W.heap[gN]? = some (.map es9 ck9) ∧ Kd.C (Kd.int .i64) W Ah nn hh ∧ True) rfl rfl (listed := #[false, false, false, false, false, false, false, false, false, false, false, false, false, false, false, false, false, false, false, false, false, false, false, false, false, false, false, false, false, false, false, false, false, false, false, false, false, false, false, false, false, false, false, false, false, false, false, false]) rfl ?_
                  intro w15 hh hk
                  replace B_gL := kp_blk B_gL hk (fun h => h)
                  replace B_gN := kp_blk B_gN hk (fun h => h)
                  replace K_0 := K_0.then_ hk (fun _ h => h.elim)
                  replace K_s7 := K_s7.then_ hk (fun _ h => h.elim)
                  replace K_s10 := K_s10.then_ hk (fun _ h => h.elim)
                  clear hh hk
                  refine d_take (v := Value.int .i64 ((costP (nn : Int) f9 (p : Int) (b : Int)).2)) p7_23_0 ns7_23 (by kernel_rfl) (by kernel_rfl) (fun _ _ _ h => h) hE wn_none rfl ⟨B_gL, B_gN, (FAh _ K_s7), trivial⟩ (fun W hS => (st_move rfl)) rfl ?_
                  clear hE a; intro a hE
                  refine d_take (v := Value.bool false) p7_23_1 ns7_23 (by kernel_rfl) (by kernel_rfl) (fun _ _ _ h => h) hE wn_none rfl ⟨B_gL, B_gN, (FAh _ K_s7), trivial⟩ (fun W hS => (st_neq (b := false) rfl rfl (by first | (rw [hc1]; rfl) | (rw [hsy, hc1]; rfl)))) rfl ?_
                  clear hE a; intro a hE
                  refine d_take (v := Value.bool false) p7_23_2 ns7_23 (by kernel_rfl) (by kernel_rfl) (fun _ _ _ h => h) hE wn_none rfl ⟨B_gL, B_gN, (FAh _ K_s7), trivial⟩ (fun W hS => (st_move rfl)) rfl ?_
                  clear hE a; intro a hE
                  refine d_take (v := Value.int .i64 ((costP (nn : Int) f9 (b : Int) (p : Int)).2)) p7_23_3 ns7_23 (by kernel_rfl) (by kernel_rfl) (fun _ _ _ h => h) hE (wn_some g7_23_2 rfl rfl) rfl ⟨B_gL, B_gN, (FAh _ K_s7), trivial⟩ (fun W hS => (st_move rfl)) rfl ?_
                  clear hE a; intro a hE
                  refine d_take (v := Value.bool false) p7_23_4 ns7_23 (by kernel_rfl) (by kernel_rfl) (fun _ _ _ h => h) hE (wn_some g7_23_2 rfl rfl) rfl ⟨B_gL, B_gN, (FAh _ K_s7), trivial⟩ (fun W hS => (st_neq (b := false) rfl rfl (by first | (rw [hc1]; rfl) | (rw [hsy, hc1]; rfl)))) rfl ?_
                  clear hE a; intro a hE
                  refine d_take (v := Value.bool false) p7_23_5 ns7_23 (by kernel_rfl) (by kernel_rfl) (fun _ _ _ h => h) hE wn_none rfl ⟨B_gL, B_gN, (FAh _ K_s7), trivial⟩ (fun W hS => (st_pick rfl rfl)) rfl ?_
                  clear hE a; intro a hE
                  refine d_take (v := Value.bool false) p7_23_6 ns7_23 (by kernel_rfl) (by kernel_rfl) (fun _ _ _ h => h) hE wn_none rfl ⟨B_gL, B_gN, (FAh _ K_s7), trivial⟩ (fun W hS => (st_move rfl)) rfl ?_
                  clear hE a; intro a hE
                  refine d_take (v := Value.int .i64 ((costP (nn : Int) f9 (p : Int) (b : Int)).1)) p7_23_7 ns7_23 (by kernel_rfl) (by kernel_rfl) (fun _ _ _ h => h) hE (wn_some g7_23_6 rfl rfl) rfl ⟨B_gL, B_gN, (FAh _ K_s7), trivial⟩ (fun W hS => (st_move rfl)) rfl ?_
                  clear hE a; intro a hE
                  refine d_take (v := Value.int .i64 ((costP (nn : Int) f9 (b : Int) (p : Int)).1)) p7_23_8 ns7_23 (by kernel_rfl) (by kernel_rfl) (fun _ _ _ h => h) hE (wn_some g7_23_6 rfl rfl) rfl ⟨B_gL, B_gN, (FAh _ K_s7), trivial⟩ (fun W hS => (st_move rfl)) rfl ?_
                  clear hE a; intro a hE
                  refine d_take (v := Value.bool false) p7_23_9 ns7_23 (by kernel_rfl) (by kernel_rfl) (fun _ _ _ h => h) hE (wn_some g7_23_6 rfl rfl) rfl ⟨B_gL, B_gN, (FAh _ K_s7), trivial⟩ (fun W hS => (st_neq (b := false) rfl rfl (by rw [hsy]; simp))) rfl ?_
                  clear hE a; intro a hE
                  refine d_take (v := Value.bool false) p7_23_10 ns7_23 (by kernel_rfl) (by kernel_rfl) (fun _ _ _ h => h) hE wn_none rfl ⟨B_gL, B_gN, (FAh _ K_s7), trivial⟩ (fun W hS => (st_pick rfl rfl)) rfl ?_
                  clear hE a; intro a hE
                  refine d_take (v := Value.bool false) p7_23_11 ns7_23 (by kernel_rfl) (by kernel_rfl) (fun _ _ _ h => h) hE wn_none rfl ⟨B_gL, B_gN, (FAh _ K_s7), trivial⟩ (fun W hS => (st_move rfl)) rfl ?_
                  clear hE a; intro a hE
                  refine d_take (v := Value.slice Ah nn ch) p7_23_12 ns7_23 (by kernel_rfl) (by kernel_rfl) (fun _ _ _ h => h) hE (wn_some g7_23_11 rfl rfl) rfl ⟨B_gL, B_gN, (FAh _ K_s7), trivial⟩ (fun W hS => (st_move rfl)) rfl ?_
                  clear hE a; intro a hE
                  refine d_take (v := Value.int .i64 (p : Int)) p7_23_13 ns7_23 (by kernel_rfl) (by kernel_rfl) (fun _ _ _ h => h) hE (wn_some g7_23_11 rfl rfl) rfl ⟨B_gL, B_gN, (FAh _ K_s7), trivial⟩ (fun W hS => (st_move rfl)) rfl ?_
                  clear hE a; intro a hE
                  refine d_take (v := Value.pointer (some (ea Ah p))) p7_23_14 ns7_23 (by kernel_rfl) (by kernel_rfl) (fun _ _ _ h => h) hE (wn_some g7_23_11 rfl rfl) rfl ⟨B_gL, B_gN, (FAh _ K_s7), trivial⟩ (fun W hS => (st_indexAddrS (i := p) Try.underlying52 tS3 (C_at (FAh _ K_s7) (show p < _ by omega)).1 rfl rfl (by omega))) rfl ?_
                  clear hE a; intro a hE
                  refine d_take (v := Value.int .i64 (rd hh (p : Int))) p7_23_15 ns7_23 (by kernel_rfl) (by kernel_rfl) (fun _ _ _ h => h) hE (wn_some g7_23_11 rfl rfl) rfl ⟨B_gL, B_gN, (FAh _ K_s7), trivial⟩ (fun W hS => (st_loadC (i := p) tA3 (hS.2.2.1) (by omega) rfl)) rfl ?_
                  clear hE a; intro a hE
                  refine d_take (v := Value.bool true) p7_23_16 ns7_23 (by kernel_rfl) (by kernel_rfl) (fun _ _ _ h => h) hE (wn_some g7_23_11 rfl rfl) rfl ⟨B_gL, B_gN, (FAh _ K_s7), trivial⟩ (fun W hS => (st_lss (b := true) rfl rfl (decide_eq_true (by omega)))) rfl ?_
                  clear hE a; intro a hE
                  refine d_take (v := Value.slice Ah nn ch) p7_23_17 ns7_23 (by kernel_rfl) (by kernel_rfl) (fun _ _ _ h => h) hE (wn_some g7_23_11 rfl rfl) rfl ⟨B_gL, B_gN, (FAh _ K_s7), trivial⟩ (fun W hS => (st_move rfl)) rfl ?_
                  clear hE a; intro a hE
                  refine d_take (v := Value.int .i64 (b : Int)) p7_23_18 ns7_23 (by kernel_rfl) (by kernel_rfl) (fun _ _ _ h => h) hE (wn_some g7_23_11 rfl rfl) rfl ⟨B_gL, B_gN, (FAh _ K_s7), trivial⟩ (fun W hS => (st_move rfl)) rfl ?_
                  clear hE a; intro a hE
                  refine d_take (v := Value.pointer (some (ea Ah b))) p7_23_19 ns7_23 (by kernel_rfl) (by kernel_rfl) (fun _ _ _ h => h) hE (wn_some g7_23_11 rfl rfl) rfl ⟨B_gL, B_gN, (FAh _ K_s7), trivial⟩ (fun W hS => (st_indexAddrS (i := b) Try.underlying52 tS3 (C_at (FAh _ K_s7) (show b < _ by omega)).1 rfl rfl (by omega))) rfl ?_
                  clear hE a; intro a hE
                  refine d_take (v := Value.int .i64 (rd hh (b : Int))) p7_23_20 ns7_23 (by kernel_rfl) (by kernel_rfl) (fun _ _ _ h => h) hE (wn_some g7_23_11 rfl rfl) rfl ⟨B_gL, B_gN, (FAh _ K_s7), trivial⟩ (fun W hS => (st_loadC (i := b) tA3 (hS.2.2.1) (by omega) rfl)) rfl ?_
                  clear hE a; intro a hE
                  refine d_take (v := Value.bool true) p7_23_21 ns7_23 (by kernel_rfl) (by kernel_rfl) (fun _ _ _ h => h) hE (wn_some g7_23_11 rfl rfl) rfl ⟨B_gL, B_gN, (FAh _ K_s7), trivial⟩ (fun W hS => (st_lss (b := true) rfl rfl (decide_eq_true (by omega)))) rfl ?_
                  clear hE a; intro a hE
                  refine d_take (v := Value.bool false) p7_23_22 ns7_23 (by kernel_rfl) (by kernel_rfl) (fun _ _ _ h => h) hE (wn_some g7_23_11 rfl rfl) rfl ⟨B_gL, B_gN, (FAh _ K_s7), trivial⟩ (fun W hS => (st_neqB (b := false) Try.underlying4 rfl rfl rfl)) rfl ?_
                  clear hE a; intro a hE
                  refine d_take (v := Value.bool false) p7_23_23 ns7_23 (by kernel_rfl) (by kernel_rfl) (fun _ _ _ h => h) hE wn_none rfl ⟨B_gL, B_gN, (FAh _ K_s7), trivial⟩ (fun W hS => (st_pick rfl rfl)) rfl ?_
                  clear hE a; intro a hE
                  refine d_take (v := Value.bool false) p7_23_24 ns7_23 (by kernel_rfl) (by kernel_rfl) (fun _ _ _ h => h) hE wn_none rfl ⟨B_gL, B_gN, (FAh _ K_s7), trivial⟩ (fun W hS => (st_move rfl)) rfl ?_
                  clear hE a; intro a hE
                  refine d_take (v := Value.slice Ah nn ch) p7_23_25 ns7_23 (by kernel_rfl) (by kernel_rfl) (fun _ _ _ h => h) hE (wn_some g7_23_24 rfl rfl) rfl ⟨B_gL, B_gN, (FAh _ K_s7), trivial⟩ (fun W hS => (st_move rfl)) rfl ?_
                  clear hE a; intro a hE
                  refine d_take (v := Value.int .i64 (p : Int)) p7_23_26 ns7_23 (by kernel_rfl) (by kernel_rfl) (fun _ _ _ h => h) hE (wn_some g7_23_24 rfl rfl) rfl ⟨B_gL, B_gN, (FAh _ K_s7), trivial⟩ (fun W hS => (st_move rfl)) rfl ?_
                  clear hE a; intro a hE
                  refine d_take (v := Value.pointer (some (ea Ah p))) p7_23_27 ns7_23 (by kernel_rfl) (by kernel_rfl) (fun _ _ _ h => h) hE (wn_some g7_23_24 rfl rfl) rfl ⟨B_gL, B_gN, (FAh _ K_s7), trivial⟩ (fun W hS => (st_indexAddrS (i := p) Try.underlying52 tS3 (C_at (FAh _ K_s7) (show p < _ by omega)).1 rfl rfl (by omega))) rfl ?_
                  clear hE a; intro a hE
                  refine d_take (v := Value.int .i64 (rd hh (p : Int))) p7_23_28 ns7_23 (by kernel_rfl) (by kernel_rfl) (fun _ _ _ h => h) hE (wn_some g7_23_24 rfl rfl) rfl ⟨B_gL, B_gN, (FAh _ K_s7), trivial⟩ (fun W hS => (st_loadC (i := p) tA3 (hS.2.2.1) (by omega) rfl)) rfl ?_
                  clear hE a; intro a hE
                  refine d_take (v := Value.slice Ah nn ch) p7_23_29 ns7_23 (by kernel_rfl) (by kernel_rfl) (fun _ _ _ h => h) hE (wn_some g7_23_24 rfl rfl) rfl ⟨B_gL, B_gN, (FAh _ K_s7), trivial⟩ (fun W hS => (st_move rfl)) rfl ?_
                  clear hE a; intro a hE
                  refine d_take (v := Value.int .i64 (b : Int)) p7_23_30 ns7_23 (by kernel_rfl) (by kernel_rfl) (fun _ _ _ h => h) hE (wn_some g7_23_24 rfl rfl) rfl ⟨B_gL, B_gN, (FAh _ K_s7), trivial⟩ (fun W hS => (st_move rfl)) rfl ?_
                  clear hE a; intro a hE
                  refine d_take (v := Value.pointer (some (ea Ah b))) p7_23_31 ns7_23 (by kernel_rfl) (by kernel_rfl) (fun _ _ _ h => h) hE (wn_some g7_23_24 rfl rfl) rfl ⟨B_gL, B_gN, (FAh _ K_s7), trivial⟩ (fun W hS => (st_indexAddrS (i := b) Try.underlying52 tS3 (C_at (FAh _ K_s7) (show b < _ by omega)).1 rfl rfl (by omega))) rfl ?_
                  clear hE a; intro a hE
                  refine d_take (v := Value.int .i64 (rd hh (b : Int))) p7_23_32 ns7_23 (by kernel_rfl) (by kernel_rfl) (fun _ _ _ h => h) hE (wn_some g7_23_24 rfl rfl) rfl ⟨B_gL, B_gN, (FAh _ K_s7), trivial⟩ (fun W hS => (st_loadC (i := b) tA3 (hS.2.2.1) (by omega) rfl)) rfl ?_
                  clear hE a; intro a hE
                  refine d_take (v := Value.int .i64 ((rd hh (p : Int)) - (rd hh (b : Int)))) p7_23_33 ns7_23 (by kernel_rfl) (by kernel_rfl) (fun _ _ _ h => h) hE (wn_some g7_23_24 rfl rfl) rfl ⟨B_gL, B_gN, (FAh _ K_s7), trivial⟩ (fun W hS => (st_sub (z := (rd hh (p : Int)) - (rd hh (b : Int))) rfl rfl (wr_i64 _ (by omega) (by omega)))) rfl ?_
                  clear hE a; intro a hE
                  refine d_take (v := Value.bool false) p7_23_34 ns7_23 (by kernel_rfl) (by kernel_rfl) (fun _ _ _ h => h) hE (wn_some g7_23_24 rfl rfl) rfl ⟨B_gL, B_gN, (FAh _ K_s7), trivial⟩ (fun W hS => (st_gtr (b := false) rfl rfl (decide_eq_false (by omega)))) rfl ?_
                  clear hE a; intro a hE
                  refine d_take (v := Value.bool false) p7_23_35 ns7_23 (by kernel_rfl) (by kernel_rfl) (fun _ _ _ h => h) hE wn_none rfl ⟨B_gL, B_gN, (FAh _ K_s7), trivial⟩ (fun W hS => (st_pick rfl rfl)) rfl ?_
                  clear hE a; intro a hE
                  refine d_take (v := Value.bool false) p7_23_36 ns7_23 (by kernel_rfl) (by kernel_rfl) (fun _ _ _ h => h) hE wn_none rfl ⟨B_gL, B_gN, (FAh _ K_s7), trivial⟩ (fun W hS => (st_move rfl)) rfl ?_
                  clear hE a; intro a hE
                  refine d_take (v := Value.slice Ah nn ch) p7_23_37 ns7_23 (by kernel_rfl) (by kernel_rfl) (fun _ _ _ h => h) hE (wn_some g7_23_36 rfl rfl) rfl ⟨B_gL, B_gN, (FAh _ K_s7), trivial⟩ (fun W hS => (st_move rfl)) rfl ?_
                  clear hE a; intro a hE
                  refine d_take (v := Value.int .i64 (b : Int)) p7_23_38 ns7_23 (by kernel_rfl) (by kernel_rfl) (fun _ _ _ h => h) hE (wn_some g7_23_36 rfl rfl) rfl ⟨B_gL, B_gN, (FAh _ K_s7), trivial⟩ (fun W hS => (st_move rfl)) rfl ?_
                  clear hE a; intro a hE
                  refine d_take (v := Value.pointer (some (ea Ah b))) p7_23_39 ns7_23 (by kernel_rfl) (by kernel_rfl) (fun _ _ _ h => h) hE (wn_some g7_23_36 rfl rfl) rfl ⟨B_gL, B_gN, (FAh _ K_s7), trivial⟩ (fun W hS => (st_indexAddrS (i := b) Try.underlying52 tS3 (C_at (FAh _ K_s7) (show b < _ by omega)).1 rfl rfl (by omega))) rfl ?_
                  clear hE a; intro a hE
                  refine d_take (v := Value.int .i64 (rd hh (b : Int))) p7_23_40 ns7_23 (by kernel_rfl) (by kernel_rfl) (fun _ _ _ h => h) hE (wn_some g7_23_36 rfl rfl) rfl ⟨B_gL, B_gN, (FAh _ K_s7), trivial⟩ (fun W hS => (st_loadC (i := b) tA3 (hS.2.2.1) (by omega) rfl)) rfl ?_
                  clear hE a; intro a hE
                  refine d_take (v := Value.slice Ah nn ch) p7_23_41 ns7_23 (by kernel_rfl) (by kernel_rfl) (fun _ _ _ h => h) hE (wn_some g7_23_36 rfl rfl) rfl ⟨B_gL, B_gN, (FAh _ K_s7), trivial⟩ (fun W hS => (st_move rfl)) rfl ?_
                  clear hE a; intro a hE
                  refine d_take (v := Value.int .i64 (p : Int)) p7_23_42 ns7_23 (by kernel_rfl) (by kernel_rfl) (fun _ _ _ h => h) hE (wn_some g7_23_36 rfl rfl) rfl ⟨B_gL, B_gN, (FAh _ K_s7), trivial⟩ (fun W hS => (st_move rfl)) rfl ?_
                  clear hE a; intro a hE
                  refine d_take (v := Value.pointer (some (ea Ah p))) p7_23_43 ns7_23 (by kernel_rfl) (by kernel_rfl) (fun _ _ _ h => h) hE (wn_some g7_23_36 rfl rfl) rfl ⟨B_gL, B_gN, (FAh _ K_s7), trivial⟩ (fun W hS => (st_indexAddrS (i := p) Try.underlying52 tS3 (C_at (FAh _ K_s7) (show p < _ by omega)).1 rfl rfl (by omega))) rfl ?_
                  clear hE a; intro a hE
                  refine d_take (v := Value.int .i64 (rd hh (p : Int))) p7_23_44 ns7_23 (by kernel_rfl) (by kernel_rfl) (fun _ _ _ h => h) hE (wn_some g7_23_36 rfl rfl) rfl ⟨B_gL, B_gN, (FAh _ K_s7), trivial⟩ (fun W hS => (st_loadC (i := p) tA3 (hS.2.2.1) (by omega) rfl)) rfl ?_
                  clear hE a; intro a hE
                  refine d_take (v := Value.int .i64 ((rd hh (b : Int)) - (rd hh (p : Int)))) p7_23_45 ns7_23 (by kernel_rfl) (by kernel_rfl) (fun _ _ _ h => h) hE (wn_some g7_23_36 rfl rfl) rfl ⟨B_gL, B_gN, (FAh _ K_s7), trivial⟩ (fun W hS => (st_sub (z := (rd hh (b : Int)) - (rd hh (p : Int))) rfl rfl (wr_i64 _ (by omega) (by omega)))) rfl ?_
                  clear hE a; intro a hE
                  refine d_take (v := Value.bool false) p7_23_46 ns7_23 (by kernel_rfl) (by kernel_rfl) (fun _ _ _ h => h) hE (wn_some g7_23_36 rfl rfl) rfl ⟨B_gL, B_gN, (FAh _ K_s7), trivial⟩ (fun W hS => (st_gtr (b := false) rfl rfl (decide_eq_false (by omega)))) rfl ?_
                  clear hE a; intro a hE
                  refine d_take (v := Value.bool false) p7_23_47 ns7_23 (by kernel_rfl) (by kernel_rfl) (fun _ _ _ h => h) hE wn_none rfl ⟨B_gL, B_gN, (FAh _ K_s7), trivial⟩ (fun W hS => (st_pick rfl rfl)) rfl ?_
                  clear hE a; intro a hE
                  refine d_end (by kernel_rfl) ?_
                  refine x_norm ?_
                  refine c_cond (t := false) hE rfl ?_
                  refine wp_skip ?_
                  refine x_normB ?_
                  refine x_norm ?_
                  refine c_regL R7_19_l ?_
                  refine q0 p7_19_0 hE (st_move rfl) ?_
                  clear hE a; intro a hE
                  refine q0 p7_19_1 hE (st_add (z := (q : Int) + 1) rfl rfl (wr_i64 _ (by omega) (by omega))) ?_
                  clear hE a; intro a hE
                  refine q0 p7_19_2 hE (st_assign rfl) ?_
                  clear hE a; intro a hE
                  refine p_nil ?_
                  refine x_norm ?_
                  exact ⟨q + 1, by omega, En.sub hE ⟨rfl, rfl, rfl, rfl, rfl, rfl, rfl, rfl, rfl, rfl, rfl, rfl, rfl, rfl, trivial⟩, by omega, B_gL, B_gN, K_0, K_s7, K_s10⟩
              ·
                refine c_reg R7_18_l ?_
                refine q0 p7_18_0 hE (st_move rfl) ?_
                clear hE a; intro a hE
                refine q0 p7_18_1 hE (st_move rfl) ?_
                clear hE a; intro a hE
                refine q0 p7_18_2 hE (st_len Try.underlying52 rfl) ?_
                clear hE a; intro a hE
                refine q0 p7_18_3 hE (st_lss (b := false) rfl rfl (decide_eq_false hQ1)) ?_
                clear hE a; intro a hE
                refine p_nil ?_
                refine x_norm ?_
                refine c_cond (t := false) hE rfl ?_
                refine wp_exit ?_
                refine x_exit ?_
                refine x_exit ?_
                refine x_in ?_
                refine x_normB ?_
                refine x_norm ?_
                refine c_regL R7_15_l ?_
                refine q0 p7_15_0 hE (st_move rfl) ?_
                clear hE a; intro a hE
                refine q0 p7_15_1 hE (st_add (z := (p : Int) + 1) rfl rfl (wr_i64 _ (by omega) (by omega))) ?_
                clear hE a; intro a hE
                refine q0 p7_15_2 hE (st_assign rfl) ?_
                clear hE a; intro a hE
                refine p_nil ?_
                refine x_norm ?_
                exact ⟨p + 1, by omega, En.sub hE ⟨rfl, rfl, rfl, rfl, rfl, rfl, rfl, rfl, rfl, rfl, rfl, trivial⟩, by omega, B_gL, B_gN, K_0, K_s7⟩
          ·
            refine c_reg R7_14_l ?_
            refine q0 p7_14_0 hE (st_move rfl) ?_
            clear hE a; intro a hE
            refine q0 p7_14_1 hE (st_move rfl) ?_
            clear hE a; intro a hE
            refine q0 p7_14_2 hE (st_lss (b := false) rfl rfl (decide_eq_false hP1)) ?_
            clear hE a; intro a hE
            refine p_nil ?_
            refine x_norm ?_
            refine c_cond (t := false) hE rfl ?_
            refine wp_exit ?_
            refine x_exit ?_
            refine x_exit ?_
            refine x_in ?_
            refine x_norm ?_
            refine c_reg R7_25_l ?_
            refine p_cons (s_call (xs := []) (args := []) p7_25_0 hE wn_none rfl rfl Try.func33 cl33 (kn26  _) ?_)
            rintro e w16 ⟨rfl, hk⟩
            replace B_gL := kp_blk B_gL hk (fun h => h)
            replace B_gN := kp_blk B_gN hk (fun h => h)
            replace K_0 := K_0.then_ hk (fun _ h => h.elim)
            replace K_s7 := K_s7.then_ hk (fun _ h => h.elim)
            refine ⟨_, rfl, ?_⟩
            clear hE a; intro a hE
            refine q0 p7_25_1 hE (st_assign rfl) ?_
            clear hE a; intro a hE
            refine p_nil ?_
            refine x_norm ?_
            refine wp_ret ?_
            refine ret_one (v := Value.bool true) rfl hE (.tmp rfl .nil) ?_
            exact ⟨rfl, K_0.to (Nat.le_refl _) (fun _ h => h.elim)⟩
    ·
      refine c_reg R7_7_l ?_
      refine q0 p7_7_0 hE (st_move rfl) ?_
      clear hE a; intro a hE
      refine q0 p7_7_1 hE (st_move rfl) ?_
      clear hE a; intro a hE
      refine q0 p7_7_2 hE (st_len Try.underlying55 rfl) ?_
      clear hE a; intro a hE
      refine q0 p7_7_3 hE (st_lss (b := false) rfl rfl (decide_eq_false hI1)) ?_
      clear hE a; intro a hE
      refine q0 p7_7_4 hE (st_move rfl) ?_
      clear hE a; intro a hE
      refine p_cons (s_skip p7_7_5 hE (wn_some g7_7_4 rfl rfl) rfl ?_)
      clear hE a; intro a hE
      refine p_cons (s_skip p7_7_6 hE (wn_some g7_7_4 rfl rfl) rfl ?_)
      clear hE a; intro a hE
      refine q0 p7_7_7 hE (st_pick rfl rfl) ?_
      clear hE a; intro a hE
      refine p_nil ?_
      refine x_norm ?_
      refine c_cond (t := false) hE rfl ?_
      refine wp_exit ?_
      refine x_exit ?_
      refine x_exit ?_
      refine x_in ?_
      refine x_norm ?_
      refine c_reg R7_10_l ?_
      refine q0 p7_10_0 hE (st_move rfl) ?_
      clear hE a; intro a hE
      refine q0 p7_10_1 hE (st_move rfl) ?_
      clear hE a; intro a hE
      refine p_cons (s_call (xs := [Operand.tmp 68, Operand.tmp 69]) (args := [Value.pointer (some ⟨gL, 0, none⟩), Value.int .i64 (x : Int)]) p7_10_2 hE wn_none rfl rfl Try.func30 cl30 (hops_any gL gN _ nn _ _ x hxn hnn.2 _ B_gL B_gN MF9 n_gL_gN) ?_)
      rintro e w17 ⟨Ah, ch, hh, rfl, hch, ⟨hBh, hCh⟩, FAh, hk⟩
      replace B_gL := kp_blk B_gL hk (fun h => h)
      replace B_gN := kp_blk B_gN hk (fun h => h)
      replace K_0 := K_0.then_ hk (fun _ h => h.elim)
      have K_s18 := Kp.refl w17 (fun _ => False)
      refine ⟨_, rfl, ?_⟩
      clear hE a; intro a hE
      refine q0 p7_10_3 hE (st_assign rfl) ?_
      clear hE a; intro a hE
      refine p_nil ?_
      refine x_norm ?_
      refine wp_seq ?_
      refine c_reg R7_11_l ?_
      refine q0 p7_11_0 hE (st_move rfl) ?_
      clear hE a; intro a hE
      refine q0 p7_11_1 hE (st_len Try.underlying52 rfl) ?_
      clear hE a; intro a hE
      refine q0 p7_11_2 hE (st_move rfl) ?_
      clear hE a; intro a hE
      refine q0 p7_11_3 hE (st_neq (b := false) rfl rfl (by simp)) ?_
      clear hE a; intro a hE
      refine q0 p7_11_4 hE (st_move rfl) ?_
      clear hE a; intro a hE
      refine p_cons (s_still p7_11_5 hE (wn_some g7_11_4 rfl rfl) rfl (st_move rfl) ?_)
      clear hE a; intro a hE
      refine p_cons (s_still p7_11_6 hE (wn_some g7_11_4 rfl rfl) rfl (st_move rfl) ?_)
      clear hE a; intro a hE
      refine p_cons (s_still p7_11_7 hE (wn_some g7_11_4 rfl rfl) rfl (st_indexAddrC (i := x) Try.underlying52 tS3 (FAh _ K_s18) rfl rfl (by omega)) ?_)
      clear hE a; intro a hE
      refine p_cons (s_still (v := Value.int .i64 (rd hh (x : Int))) p7_11_8 hE (wn_some g7_11_4 rfl rfl) rfl (st_loadC (i := x) tA3 (FAh _ K_s18) (by omega) rfl) ?_)
      clear hE a; intro a hE
      refine p_cons (s_still p7_11_9 hE (wn_some g7_11_4 rfl rfl) rfl (st_neq (b := false) rfl rfl (by rw [rd_at, hBh.zero]; rfl)) ?_)
      clear hE a; intro a hE
      refine q0 p7_11_10 hE (st_pick rfl rfl) ?_
      clear hE a; intro a hE
      refine p_nil ?_
      refine x_norm ?_
      refine c_cond (t := false) hE rfl ?_
      refine wp_skip ?_
      refine x_norm ?_
      refine wp_seq ?_
      refine c_reg R7_13_l ?_
      refine q0 p7_13_0 hE (st_assign rfl) ?_
      clear hE a; intro a hE
      refine p_nil ?_
      refine x_norm ?_
      refine wp_block ?_
      refine c_loop (α := Nat) (fun p a W => En 163 a [(0, Value.int .i64 (nn : Int)), (1, Value.slice a1 z1.length cap1), (2, Value.int .i64 (x : Int)), (7, Value.pointer (some ⟨gL, 0, none⟩)), (8, Value.int .i64 0), (40, Value.bool false), (9, Value.int .i64 (i : Int)), (48, Value.bool false), (10, Value.slice Ah nn ch), (81, Value.bool false), (11, Value.int .i64 (p : Int))] ∧ p ≤ nn ∧ W.heap[gL]? = some (.cells #[Value.int .i64 (nn : Int), Value.map (some gN)] 83 (0, 0)) ∧ W.heap[gN]? = some (.map es9 ck9) ∧ Kp w W (fun _ => False) ∧ Kp w17 W (fun _ => False)) (fun p => nn - p) (0) ?_ ?_
      ·
        exact ⟨En.sub hE ⟨rfl, rfl, rfl, rfl, rfl, rfl, rfl, rfl, rfl, rfl, rfl, trivial⟩, Nat.zero_le _, B_gL, B_gN, K_0, K_s18⟩
      ·
        clear hE a
        rintro p a w19 ⟨hE, hp9, B_gL, B_gN, K_0, K_s18⟩
        refine wp_seq ?_
        rcases Decidable.em ((p : Int) < (nn : Int)) with hP1 | hP1
        ·
          refine c_reg R7_14_l ?_
          refine q0 p7_14_0 hE (st_move rfl) ?_
          clear hE a; intro a hE
          refine q0 p7_14_1 hE (st_move rfl) ?_
          clear hE a; intro a hE
          refine q0 p7_14_2 hE (st_lss (b := true) rfl rfl (decide_eq_true hP1)) ?_
          clear hE a; intro a hE
          refine p_nil ?_
          refine x_norm ?_
          refine c_cond (t := true) hE rfl ?_
          refine wp_skip ?_
          refine x_norm ?_
          refine wp_seq ?_
          refine wp_block ?_
          refine c_reg R7_16_l ?_
          refine q0 p7_16_0 hE (st_move rfl) ?_
          clear hE a; intro a hE
          refine q0 p7_16_1 hE (st_move rfl) ?_
          clear hE a; intro a hE
          refine p_cons (s_call (xs := [Operand.tmp 87, Operand.tmp 88]) (args := [Value.pointer (some ⟨gL, 0, none⟩), Value.int .i64 (p : Int)]) p7_16_2 hE wn_none rfl rfl Try.func31 cl31 (nbs_any gL gN _ nn _ f9 (p : Int) hnn.2 _ B_gL B_gN MF9 n_gL_gN) ?_)
          rintro e w20 ⟨An, cn, rfl, hcn, FAn, hgn, hk⟩
          replace B_gL := kp_blk B_gL hk (fun h => h)
          replace B_gN := kp_blk B_gN hk (fun h => h)
          replace K_0 := K_0.then_ hk (fun _ h => h.elim)
          replace K_s18 := K_s18.then_ hk (fun _ h => h.elim)
          have K_s21 := Kp.refl w20 (fun _ => False)
          refine ⟨_, rfl, ?_⟩
          clear hE a; intro a hE
          refine q0 p7_16_3 hE (st_assign rfl) ?_
          clear hE a; intro a hE
          refine p_nil ?_
          refine x_norm ?_
          refine c_reg R7_17_l ?_
          refine q0 p7_17_0 hE (st_assign rfl) ?_
          clear hE a; intro a hE
          refine p_nil ?_
          refine x_norm ?_
          refine wp_block ?_
          refine c_loop (α := Nat) (fun q a W => En 163 a [(0, Value.int .i64 (nn : Int)), (1, Value.slice a1 z1.length cap1), (2, Value.int .i64 (x : Int)), (7, Value.pointer (some ⟨gL, 0, none⟩)), (8, Value.int .i64 0), (40, Value.bool false), (9, Value.int .i64 (i : Int)), (48, Value.bool false), (10, Value.slice Ah nn ch), (81, Value.bool false), (11, Value.int .i64 (p : Int)), (84, Value.bool true), (12, Value.slice An ((nbs (nn : Int) f9 (p : Int) nn).length) cn), (13, Value.int .i64 (q : Int))] ∧ q ≤ (nbs (nn : Int) f9 (p : Int) nn).length ∧ W.heap[gL]? = some (.cells #[Value.int .i64 (nn : Int), Value.map (some gN)] 83 (0, 0)) ∧ W.heap[gN]? = some (.map es9 ck9) ∧ Kp w W (fun _ => False) ∧ Kp w17 W (fun _ => False) ∧ Kp w20 W (fun _ => False)) (fun q => (nbs (nn : Int) f9 (p : Int) nn).length - q) (0) ?_ ?_
          ·
            exact ⟨En.sub hE ⟨rfl, rfl, rfl, rfl, rfl, rfl, rfl, rfl, rfl, rfl, rfl, rfl, rfl, rfl, trivial⟩, Nat.zero_le _, B_gL, B_gN, K_0, K_s18, K_s21⟩
          ·
            clear hE a
            rintro q a w22 ⟨hE, hq9, B_gL, B_gN, K_0, K_s18, K_s21⟩
            refine wp_seq ?_
            rcases Decidable.em ((q : Int) < ((nbs (nn : Int) f9 (p : Int) nn).length : Int)) with hQ1 | hQ1
            ·
              refine c_reg R7_18_l ?_
              refine q0 p7_18_0 hE (st_move rfl) ?_
              clear hE a; intro a hE
              refine q0 p7_18_1 hE (st_move rfl) ?_
              clear hE a; intro a hE
              refine q0 p7_18_2 hE (st_len Try.underlying52 rfl) ?_
              clear hE a; intro a hE
              refine q0 p7_18_3 hE (st_lss (b := true) rfl rfl (decide_eq_true hQ1)) ?_
              clear hE a; intro a hE
              refine p_nil ?_
              refine x_norm ?_
              refine c_cond (t := true) hE rfl ?_
              refine wp_skip ?_
              refine x_norm ?_
              refine wp_seq ?_
              refine wp_block ?_
              refine c_reg R7_20_l ?_
              refine q0 p7_20_0 hE (st_move rfl) ?_
              clear hE a; intro a hE
              refine q0 p7_20_1 hE (st_move rfl) ?_
              clear hE a; intro a hE
              refine q0 p7_20_2 hE (st_indexAddrC (i := q) Try.underlying52 tS3 (FAn _ (K_s21.mono (fun _ h => h.elim))) rfl rfl (by omega)) ?_
              clear hE a; intro a hE
              refine q0 (v := Value.int .i64 (rd (nbs (nn : Int) f9 (p : Int) nn) (q : Int))) p7_20_3 hE (st_loadC (i := q) tA3 (FAn _ (K_s21.mono (fun _ h => h.elim))) (by omega) rfl) ?_
              clear hE a; intro a hE
              refine q0 p7_20_4 hE (st_assign rfl) ?_
              clear hE a; intro a hE
              refine p_nil ?_
              refine x_norm ?_
              refine c_reg R7_21_l ?_
              have hnl := nbs_len (nn : Int) f9 (p : Int) nn
              have hjn : (nbs (nn : Int) f9 (p : Int) nn).length = (nbN nn f9 p).length := by rw [nbs_nat, List.length_map]
              have hjl : q < (nbN nn f9 p).length := by omega
              obtain ⟨b, hb⟩ : ∃ b, (nbN nn f9 p)[q]? = some b := ⟨_, List.getElem?_eq_getElem hjl⟩
              have hrd : (rd (nbs (nn : Int) f9 (p : Int) nn) (q : Int)) = (b : Int) := by rw [nbs_nat, rd_map _ _ hjl, (List.getElem?_eq_some_iff.1 hb).2]
              rw [hrd] at hE
              have hbE := nbN_mem.1 (List.mem_of_getElem? hb)
              have hbn := hbE.1
              have hpn : p < nn := by omega
              have hc1 := hbE.2
              have hsy := cost_sym (nn : Int) f9 (b : Int) (p : Int)
              have hbE2 : Ed nn f9 b p := ⟨hpn, by rw [hsy]; exact hc1⟩
              have hl1 := hCh p b hpn hbn hbE
              have hl2 := hCh b p hbn hpn hbE2
              rw [← rd_at, ← rd_at] at hl1 hl2
              have hlo1 := hBh.low p hpn
              have hlo2 := hBh.low b hbn
              rw [← rd_at] at hlo1 hlo2
              refine q0 p7_21_0 hE (st_move rfl) ?_
              clear hE a; intro a hE
              refine q0 p7_21_1 hE (st_move rfl) ?_
              clear hE a; intro a hE
              refine q0 p7_21_2 hE (st_move rfl) ?_
              clear hE a; intro a hE
              refine p_cons (s_call (xs := [Operand.tmp 101, Operand.tmp 102, Operand.tmp 103]) (args := [Value.pointer (some ⟨gL, 0, none⟩), Value.int .i64 (p : Int), Value.int .i64 (b : Int)]) p7_21_3 hE wn_none rfl rfl Try.func32 cl32 (cost_any gL gN _ _ f9 (nn : Int) (p : Int) (b : Int) _ B_gL B_gN MF9 n_gL_gN) ?_)
              rintro e w23 ⟨rfl, hk⟩
              replace B_gL := kp_blk B_gL hk (fun h => h)
              replace B_gN := kp_blk B_gN hk (fun h => h)
              replace K_0 := K_0.then_ hk (fun _ h => h.elim)
              replace K_s18 := K_s18.then_ hk (fun _ h => h.elim)
              replace K_s21 := K_s21.then_ hk (fun _ h => h.elim)
              refine ⟨_, rfl, ?_⟩
              clear hE a; intro a hE
              refine q0 p7_21_4 hE (st_move rfl) ?_
              clear hE a; intro a hE
              refine q0 p7_21_5 hE (st_extract rfl rfl) ?_
              clear hE a; intro a hE
              refine q0 p7_21_6 hE (st_extract rfl rfl) ?_
              clear hE a; intro a hE
              refine q0 p7_21_7 hE (st_assign rfl) ?_
              clear hE a; intro a hE
              refine q0 p7_21_8 hE (st_assign rfl) ?_
              clear hE a; intro a hE
              refine p_nil ?_
              refine x_norm ?_
              refine c_reg R7_22_l ?_
              refine q0 p7_22_0 hE (st_move rfl) ?_
              clear hE a; intro a hE
              refine q0 p7_22_1 hE (st_move rfl) ?_
              clear hE a; intro a hE
              refine q0 p7_22_2 hE (st_move rfl) ?_
              clear hE a; intro a hE
              refine p_cons (s_call (xs := [Operand.tmp 108, Operand.tmp 109, Operand.tmp 110]) (args := [Value.pointer (some ⟨gL, 0, none⟩), Value.int .i64 (b : Int), Value.int .i64 (p : Int)]) p7_22_3 hE wn_none rfl rfl Try.func32 cl32 (cost_any gL gN _ _ f9 (nn : Int) (b : Int) (p : Int) _ B_gL B_gN MF9 n_gL_gN) ?_)
              rintro e w24 ⟨rfl, hk⟩
              replace B_gL := kp_blk B_gL hk (fun h => h)
              replace B_gN := kp_blk B_gN hk (fun h => h)
              replace K_0 := K_0.then_ hk (fun _ h => h.elim)
              replace K_s18 := K_s18.then_ hk (fun _ h => h.elim)
              replace K_s21 := K_s21.then_ hk (fun _ h => h.elim)
              refine ⟨_, rfl, ?_⟩
              clear hE a; intro a hE
              refine q0 p7_22_4 hE (st_move rfl) ?_
              clear hE a; intro a hE
              refine q0 p7_22_5 hE (st_extract rfl rfl) ?_
              clear hE a; intro a hE
              refine q0 p7_22_6 hE (st_extract rfl rfl) ?_
              clear hE a; intro a hE
              refine q0 p7_22_7 hE (st_assign rfl) ?_
              clear hE a; intro a hE
              refine q0 p7_22_8 hE (st_assign rfl) ?_
              clear hE a; intro a hE
              refine p_nil ?_
              refine x_norm ?_
              rcases Decidable.em (0 ≤ rd hh (p : Int)) with hV | hV
              ·
                refine c_drawS (S := fun W => W.heap[gL]? = some (.cells #[Value.int .i64 (nn : Int), Value.map (some gN)] 83 (0, 0)) ∧ W.heap[gN]? = some (.map es9 ck9) ∧ Kd.C (Kd.int .i64) W Ah nn hh ∧ True) rfl rfl (listed := #[false, false, false, false, false, false, false, false, false, false, false, false, false, false, false, false, false, false, false, false, false, false, false, false, false, false, false, false, false, false, false, false, false, false, false, false, false, false, false, false, false, false, false, false, false, false, false, false]) rfl ?_
                intro w25 hh hk
                replace B_gL := kp_blk B_gL hk (fun h => h)
                replace B_gN := kp_blk B_gN hk (fun h => h)
                replace K_0 := K_0.then_ hk (fun _ h => h.elim)
                replace K_s18 := K_s18.then_ hk (fun _ h => h.elim)
                replace K_s21 := K_s21.then_ hk (fun _ h => h.elim)
                clear hh hk
                refine d_take (v := Value.int .i64 ((costP (nn : Int) f9 (p : Int) (b : Int)).2)) p7_23_0 ns7_23 (by kernel_rfl) (by kernel_rfl) (fun _ _ _ h => h) hE wn_none rfl ⟨B_gL, B_gN, (FAh _ K_s18), trivial⟩ (fun W hS => (st_move rfl)) rfl ?_
                clear hE a; intro a hE
                refine d_take (v := Value.bool false) p7_23_1 ns7_23 (by kernel_rfl) (by kernel_rfl) (fun _ _ _ h => h) hE wn_none rfl ⟨B_gL, B_gN, (FAh _ K_s18), trivial⟩ (fun W hS => (st_neq (b := false) rfl rfl (by first | (rw [hc1]; rfl) | (rw [hsy, hc1]; rfl)))) rfl ?_
                clear hE a; intro a hE
                refine d_take (v := Value.bool false) p7_23_2 ns7_23 (by kernel_rfl) (by kernel_rfl) (fun _ _ _ h => h) hE wn_none rfl ⟨B_gL, B_gN, (FAh _ K_s18), trivial⟩ (fun W hS => (st_move rfl)) rfl ?_
                clear hE a; intro a hE
                refine d_take (v := Value.int .i64 ((costP (nn : Int) f9 (b : Int) (p : Int)).2)) p7_23_3 ns7_23 (by kernel_rfl) (by kernel_rfl) (fun _ _ _ h => h) hE (wn_some g7_23_2 rfl rfl) rfl ⟨B_gL, B_gN, (FAh _ K_s18), trivial⟩ (fun W hS => (st_move rfl)) rfl ?_
                clear hE a; intro a hE
                refine d_take (v := Value.bool false) p7_23_4 ns7_23 (by kernel_rfl) (by kernel_rfl) (fun _ _ _ h => h) hE (wn_some g7_23_2 rfl rfl) rfl ⟨B_gL, B_gN, (FAh _ K_s18), trivial⟩ (fun W hS => (st_neq (b := false) rfl rfl (by first | (rw [hc1]; rfl) | (rw [hsy, hc1]; rfl)))) rfl ?_
                clear hE a; intro a hE
                refine d_take (v := Value.bool false) p7_23_5 ns7_23 (by kernel_rfl) (by kernel_rfl) (fun _ _ _ h => h) hE wn_none rfl ⟨B_gL, B_gN, (FAh _ K_s18), trivial⟩ (fun W hS => (st_pick rfl rfl)) rfl ?_
                clear hE a; intro a hE
                refine d_take (v := Value.bool false) p7_23_6 ns7_23 (by kernel_rfl) (by kernel_rfl) (fun _ _ _ h => h) hE wn_none rfl ⟨B_gL, B_gN, (FAh _ K_s18), trivial⟩ (fun W hS => (st_move rfl)) rfl ?_
                clear hE a; intro a hE
                refine d_take (v := Value.int .i64 ((costP (nn : Int) f9 (p : Int) (b : Int)).1)) p7_23_7 ns7_23 (by kernel_rfl) (by kernel_rfl) (fun _ _ _ h => h) hE (wn_some g7_23_6 rfl rfl) rfl ⟨B_gL, B_gN, (FAh _ K_s18), trivial⟩ (fun W hS => (st_move rfl)) rfl ?_
                clear hE a; intro a hE
                refine d_take (v := Value.int .i64 ((costP (nn : Int) f9 (b : Int) (p : Int)).1)) p7_23_8 ns7_23 (by kernel_rfl) (by kernel_rfl) (fun _ _ _ h => h) hE (wn_some g7_23_6 rfl rfl) rfl ⟨B_gL, B_gN, (FAh _ K_s18), trivial⟩ (fun W hS => (st_move rfl)) rfl ?_
                clear hE a; intro a hE
                refine d_take (v := Value.bool false) p7_23_9 ns7_23 (by kernel_rfl) (by kernel_rfl) (fun _ _ _ h => h) hE (wn_some g7_23_6 rfl rfl) rfl ⟨B_gL, B_gN, (FAh _ K_s18), trivial⟩ (fun W hS => (st_neq (b := false) rfl rfl (by rw [hsy]; simp))) rfl ?_
                clear hE a; intro a hE
                refine d_take (v := Value.bool false) p7_23_10 ns7_23 (by kernel_rfl) (by kernel_rfl) (fun _ _ _ h => h) hE wn_none rfl ⟨B_gL, B_gN, (FAh _ K_s18), trivial⟩ (fun W hS => (st_pick rfl rfl)) rfl ?_
                clear hE a; intro a hE
                refine d_take (v := Value.bool false) p7_23_11 ns7_23 (by kernel_rfl) (by kernel_rfl) (fun _ _ _ h => h) hE wn_none rfl ⟨B_gL, B_gN, (FAh _ K_s18), trivial⟩ (fun W hS => (st_move rfl)) rfl ?_
                clear hE a; intro a hE
                refine d_take (v := Value.slice Ah nn ch) p7_23_12 ns7_23 (by kernel_rfl) (by kernel_rfl) (fun _ _ _ h => h) hE (wn_some g7_23_11 rfl rfl) rfl ⟨B_gL, B_gN, (FAh _ K_s18), trivial⟩ (fun W hS => (st_move rfl)) rfl ?_
                clear hE a; intro a hE
                refine d_take (v := Value.int .i64 (p : Int)) p7_23_13 ns7_23 (by kernel_rfl) (by kernel_rfl) (fun _ _ _ h => h) hE (wn_some g7_23_11 rfl rfl) rfl ⟨B_gL, B_gN, (FAh _ K_s18), trivial⟩ (fun W hS => (st_move rfl)) rfl ?_
                clear hE a; intro a hE
                refine d_take (v := Value.pointer (some (ea Ah p))) p7_23_14 ns7_23 (by kernel_rfl) (by kernel_rfl) (fun _ _ _ h => h) hE (wn_some g7_23_11 rfl rfl) rfl ⟨B_gL, B_gN, (FAh _ K_s18), trivial⟩ (fun W hS => (st_indexAddrS (i := p) Try.underlying52 tS3 (C_at (FAh _ K_s18) (show p < _ by omega)).1 rfl rfl (by omega))) rfl ?_
                clear hE a; intro a hE
                refine d_take (v := Value.int .i64 (rd hh (p : Int))) p7_23_15 ns7_23 (by kernel_rfl) (by kernel_rfl) (fun _ _ _ h => h) hE (wn_some g7_23_11 rfl rfl) rfl ⟨B_gL, B_gN, (FAh _ K_s18), trivial⟩ (fun W hS => (st_loadC (i := p) tA3 (hS.2.2.1) (by omega) rfl)) rfl ?_
                clear hE a; intro a hE
                refine d_take (v := Value.bool false) p7_23_16 ns7_23 (by kernel_rfl) (by kernel_rfl) (fun _ _ _ h => h) hE (wn_some g7_23_11 rfl rfl) rfl ⟨B_gL, B_gN, (FAh _ K_s18), trivial⟩ (fun W hS => (st_lss (b := false) rfl rfl (decide_eq_false (by omega)))) rfl ?_
                clear hE a; intro a hE
                refine d_take (v := Value.slice Ah nn ch) p7_23_17 ns7_23 (by kernel_rfl) (by kernel_rfl) (fun _ _ _ h => h) hE (wn_some g7_23_11 rfl rfl) rfl ⟨B_gL, B_gN, (FAh _ K_s18), trivial⟩ (fun W hS => (st_move rfl)) rfl ?_
                clear hE a; intro a hE
                refine d_take (v := Value.int .i64 (b : Int)) p7_23_18 ns7_23 (by kernel_rfl) (by kernel_rfl) (fun _ _ _ h => h) hE (wn_some g7_23_11 rfl rfl) rfl ⟨B_gL, B_gN, (FAh _ K_s18), trivial⟩ (fun W hS => (st_move rfl)) rfl ?_
                clear hE a; intro a hE
                refine d_take (v := Value.pointer (some (ea Ah b))) p7_23_19 ns7_23 (by kernel_rfl) (by kernel_rfl) (fun _ _ _ h => h) hE (wn_some g7_23_11 rfl rfl) rfl ⟨B_gL, B_gN, (FAh _ K_s18), trivial⟩ (fun W hS => (st_indexAddrS (i := b) Try.underlying52 tS3 (C_at (FAh _ K_s18) (show b < _ by omega)).1 rfl rfl (by omega))) rfl ?_
                clear hE a; intro a hE
                refine d_take (v := Value.int .i64 (rd hh (b : Int))) p7_23_20 ns7_23 (by kernel_rfl) (by kernel_rfl) (fun _ _ _ h => h) hE (wn_some g7_23_11 rfl rfl) rfl ⟨B_gL, B_gN, (FAh _ K_s18), trivial⟩ (fun W hS => (st_loadC (i := b) tA3 (hS.2.2.1) (by omega) rfl)) rfl ?_
                clear hE a; intro a hE
                refine d_take (v := Value.bool false) p7_23_21 ns7_23 (by kernel_rfl) (by kernel_rfl) (fun _ _ _ h => h) hE (wn_some g7_23_11 rfl rfl) rfl ⟨B_gL, B_gN, (FAh _ K_s18), trivial⟩ (fun W hS => (st_lss (b := false) rfl rfl (decide_eq_false (by omega)))) rfl ?_
                clear hE a; intro a hE
                refine d_take (v := Value.bool false) p7_23_22 ns7_23 (by kernel_rfl) (by kernel_rfl) (fun _ _ _ h => h) hE (wn_some g7_23_11 rfl rfl) rfl ⟨B_gL, B_gN, (FAh _ K_s18), trivial⟩ (fun W hS => (st_neqB (b := false) Try.underlying4 rfl rfl rfl)) rfl ?_
                clear hE a; intro a hE
                refine d_take (v := Value.bool false) p7_23_23 ns7_23 (by kernel_rfl) (by kernel_rfl) (fun _ _ _ h => h) hE wn_none rfl ⟨B_gL, B_gN, (FAh _ K_s18), trivial⟩ (fun W hS => (st_pick rfl rfl)) rfl ?_
                clear hE a; intro a hE
                refine d_take (v := Value.bool false) p7_23_24 ns7_23 (by kernel_rfl) (by kernel_rfl) (fun _ _ _ h => h) hE wn_none rfl ⟨B_gL, B_gN, (FAh _ K_s18), trivial⟩ (fun W hS => (st_move rfl)) rfl ?_
                clear hE a; intro a hE
                refine d_take (v := Value.slice Ah nn ch) p7_23_25 ns7_23 (by kernel_rfl) (by kernel_rfl) (fun _ _ _ h => h) hE (wn_some g7_23_24 rfl rfl) rfl ⟨B_gL, B_gN, (FAh _ K_s18), trivial⟩ (fun W hS => (st_move rfl)) rfl ?_
                clear hE a; intro a hE
                refine d_take (v := Value.int .i64 (p : Int)) p7_23_26 ns7_23 (by kernel_rfl) (by kernel_rfl) (fun _ _ _ h => h) hE (wn_some g7_23_24 rfl rfl) rfl ⟨B_gL, B_gN, (FAh _ K_s18), trivial⟩ (fun W hS => (st_move rfl)) rfl ?_
                clear hE a; intro a hE
                refine d_take (v := Value.pointer (some (ea Ah p))) p7_23_27 ns7_23 (by kernel_rfl) (by kernel_rfl) (fun _ _ _ h => h) hE (wn_some g7_23_24 rfl rfl) rfl ⟨B_gL, B_gN, (FAh _ K_s18), trivial⟩ (fun W hS => (st_indexAddrS (i := p) Try.underlying52 tS3 (C_at (FAh _ K_s18) (show p < _ by omega)).1 rfl rfl (by omega))) rfl ?_
                clear hE a; intro a hE
                refine d_take (v := Value.int .i64 (rd hh (p : Int))) p7_23_28 ns7_23 (by kernel_rfl) (by kernel_rfl) (fun _ _ _ h => h) hE (wn_some g7_23_24 rfl rfl) rfl ⟨B_gL, B_gN, (FAh _ K_s18), trivial⟩ (fun W hS => (st_loadC (i := p) tA3 (hS.2.2.1) (by omega) rfl)) rfl ?_
                clear hE a; intro a hE
                refine d_take (v := Value.slice Ah nn ch) p7_23_29 ns7_23 (by kernel_rfl) (by kernel_rfl) (fun _ _ _ h => h) hE (wn_some g7_23_24 rfl rfl) rfl ⟨B_gL, B_gN, (FAh _ K_s18), trivial⟩ (fun W hS => (st_move rfl)) rfl ?_
                clear hE a; intro a hE
                refine d_take (v := Value.int .i64 (b : Int)) p7_23_30 ns7_23 (by kernel_rfl) (by kernel_rfl) (fun _ _ _ h => h) hE (wn_some g7_23_24 rfl rfl) rfl ⟨B_gL, B_gN, (FAh _ K_s18), trivial⟩ (fun W hS => (st_move rfl)) rfl ?_
                clear hE a; intro a hE
                refine d_take (v := Value.pointer (some (ea Ah b))) p7_23_31 ns7_23 (by kernel_rfl) (by kernel_rfl) (fun _ _ _ h => h) hE (wn_some g7_23_24 rfl rfl) rfl ⟨B_gL, B_gN, (FAh _ K_s18), trivial⟩ (fun W hS => (st_indexAddrS (i := b) Try.underlying52 tS3 (C_at (FAh _ K_s18) (show b < _ by omega)).1 rfl rfl (by omega))) rfl ?_
                clear hE a; intro a hE
                refine d_take (v := Value.int .i64 (rd hh (b : Int))) p7_23_32 ns7_23 (by kernel_rfl) (by kernel_rfl) (fun _ _ _ h => h) hE (wn_some g7_23_24 rfl rfl) rfl ⟨B_gL, B_gN, (FAh _ K_s18), trivial⟩ (fun W hS => (st_loadC (i := b) tA3 (hS.2.2.1) (by omega) rfl)) rfl ?_
                clear hE a; intro a hE
                refine d_take (v := Value.int .i64 ((rd hh (p : Int)) - (rd hh (b : Int)))) p7_23_33 ns7_23 (by kernel_rfl) (by kernel_rfl) (fun _ _ _ h => h) hE (wn_some g7_23_24 rfl rfl) rfl ⟨B_gL, B_gN, (FAh _ K_s18), trivial⟩ (fun W hS => (st_sub (z := (rd hh (p : Int)) - (rd hh (b : Int))) rfl rfl (wr_i64 _ (by omega) (by omega)))) rfl ?_
                clear hE a; intro a hE
                refine d_take (v := Value.bool false) p7_23_34 ns7_23 (by kernel_rfl) (by kernel_rfl) (fun _ _ _ h => h) hE (wn_some g7_23_24 rfl rfl) rfl ⟨B_gL, B_gN, (FAh _ K_s18), trivial⟩ (fun W hS => (st_gtr (b := false) rfl rfl (decide_eq_false (by omega)))) rfl ?_
                clear hE a; intro a hE
                refine d_take (v := Value.bool false) p7_23_35 ns7_23 (by kernel_rfl) (by kernel_rfl) (fun _ _ _ h => h) hE wn_none rfl ⟨B_gL, B_gN, (FAh _ K_s18), trivial⟩ (fun W hS => (st_pick rfl rfl)) rfl ?_
                clear hE a; intro a hE
                refine d_take (v := Value.bool false) p7_23_36 ns7_23 (by kernel_rfl) (by kernel_rfl) (fun _ _ _ h => h) hE wn_none rfl ⟨B_gL, B_gN, (FAh _ K_s18), trivial⟩ (fun W hS => (st_move rfl)) rfl ?_
                clear hE a; intro a hE
                refine d_take (v := Value.slice Ah nn ch) p7_23_37 ns7_23 (by kernel_rfl) (by kernel_rfl) (fun _ _ _ h => h) hE (wn_some g7_23_36 rfl rfl) rfl ⟨B_gL, B_gN, (FAh _ K_s18), trivial⟩ (fun W hS => (st_move rfl)) rfl ?_
                clear hE a; intro a hE
                refine d_take (v := Value.int .i64 (b : Int)) p7_23_38 ns7_23 (by kernel_rfl) (by kernel_rfl) (fun _ _ _ h => h) hE (wn_some g7_23_36 rfl rfl) rfl ⟨B_gL, B_gN, (FAh _ K_s18), trivial⟩ (fun W hS => (st_move rfl)) rfl ?_
                clear hE a; intro a hE
                refine d_take (v := Value.pointer (some (ea Ah b))) p7_23_39 ns7_23 (by kernel_rfl) (by kernel_rfl) (fun _ _ _ h => h) hE (wn_some g7_23_36 rfl rfl) rfl ⟨B_gL, B_gN, (FAh _ K_s18), trivial⟩ (fun W hS => (st_indexAddrS (i := b) Try.underlying52 tS3 (C_at (FAh _ K_s18) (show b < _ by omega)).1 rfl rfl (by omega))) rfl ?_
                clear hE a; intro a hE
                refine d_take (v := Value.int .i64 (rd hh (b : Int))) p7_23_40 ns7_23 (by kernel_rfl) (by kernel_rfl) (fun _ _ _ h => h) hE (wn_some g7_23_36 rfl rfl) rfl ⟨B_gL, B_gN, (FAh _ K_s18), trivial⟩ (fun W hS => (st_loadC (i := b) tA3 (hS.2.2.1) (by omega) rfl)) rfl ?_
                clear hE a; intro a hE
                refine d_take (v := Value.slice Ah nn ch) p7_23_41 ns7_23 (by kernel_rfl) (by kernel_rfl) (fun _ _ _ h => h) hE (wn_some g7_23_36 rfl rfl) rfl ⟨B_gL, B_gN, (FAh _ K_s18), trivial⟩ (fun W hS => (st_move rfl)) rfl ?_
                clear hE a; intro a hE
                refine d_take (v := Value.int .i64 (p : Int)) p7_23_42 ns7_23 (by kernel_rfl) (by kernel_rfl) (fun _ _ _ h => h) hE (wn_some g7_23_36 rfl rfl) rfl ⟨B_gL, B_gN, (FAh _ K_s18), trivial⟩ (fun W hS => (st_move rfl)) rfl ?_
                clear hE a; intro a hE
                refine d_take (v := Value.pointer (some (ea Ah p))) p7_23_43 ns7_23 (by kernel_rfl) (by kernel_rfl) (fun _ _ _ h => h) hE (wn_some g7_23_36 rfl rfl) rfl ⟨B_gL, B_gN, (FAh _ K_s18), trivial⟩ (fun W hS => (st_indexAddrS (i := p) Try.underlying52 tS3 (C_at (FAh _ K_s18) (show p < _ by omega)).1 rfl rfl (by omega))) rfl ?_
                clear hE a; intro a hE
                refine d_take (v := Value.int .i64 (rd hh (p : Int))) p7_23_44 ns7_23 (by kernel_rfl) (by kernel_rfl) (fun _ _ _ h => h) hE (wn_some g7_23_36 rfl rfl) rfl ⟨B_gL, B_gN, (FAh _ K_s18), trivial⟩ (fun W hS => (st_loadC (i := p) tA3 (hS.2.2.1) (by omega) rfl)) rfl ?_
                clear hE a; intro a hE
                refine d_take (v := Value.int .i64 ((rd hh (b : Int)) - (rd hh (p : Int)))) p7_23_45 ns7_23 (by kernel_rfl) (by kernel_rfl) (fun _ _ _ h => h) hE (wn_some g7_23_36 rfl rfl) rfl ⟨B_gL, B_gN, (FAh _ K_s18), trivial⟩ (fun W hS => (st_sub (z := (rd hh (b : Int)) - (rd hh (p : Int))) rfl rfl (wr_i64 _ (by omega) (by omega)))) rfl ?_
                clear hE a; intro a hE
                refine d_take (v := Value.bool false) p7_23_46 ns7_23 (by kernel_rfl) (by kernel_rfl) (fun _ _ _ h => h) hE (wn_some g7_23_36 rfl rfl) rfl ⟨B_gL, B_gN, (FAh _ K_s18), trivial⟩ (fun W hS => (st_gtr (b := false) rfl rfl (decide_eq_false (by omega)))) rfl ?_
                clear hE a; intro a hE
                refine d_take (v := Value.bool false) p7_23_47 ns7_23 (by kernel_rfl) (by kernel_rfl) (fun _ _ _ h => h) hE wn_none rfl ⟨B_gL, B_gN, (FAh _ K_s18), trivial⟩ (fun W hS => (st_pick rfl rfl)) rfl ?_
                clear hE a; intro a hE
                refine d_end (by kernel_rfl) ?_
                refine x_norm ?_
                refine c_cond (t := false) hE rfl ?_
                refine wp_skip ?_
                refine x_normB ?_
                refine x_norm ?_
                refine c_regL R7_19_l ?_
                refine q0 p7_19_0 hE (st_move rfl) ?_
                clear hE a; intro a hE
                refine q0 p7_19_1 hE (st_add (z := (q : Int) + 1) rfl rfl (wr_i64 _ (by omega) (by omega))) ?_
                clear hE a; intro a hE
                refine q0 p7_19_2 hE (st_assign rfl) ?_
                clear hE a; intro a hE
                refine p_nil ?_
                refine x_norm ?_
                exact ⟨q + 1, by omega, En.sub hE ⟨rfl, rfl, rfl, rfl, rfl, rfl, rfl, rfl, rfl, rfl, rfl, rfl, rfl, rfl, trivial⟩, by omega, B_gL, B_gN, K_0, K_s18, K_s21⟩
              ·
                refine c_drawS (S := fun W => W.heap[gL]? = some (.cells #[Value.int .i64 (nn : Int), Value.map (some gN)] 83 (0, 0)) ∧ W.heap[gN]? = some (.map es9 ck9) ∧ Kd.C (Kd.int .i64) W Ah nn hh ∧ True) rfl rfl (listed := #[false, false, false, false, false, false, false, false, false, false, false, false, false, false, false, false, false, false, false, false, false, false, false, false, false, false, false, false, false, false, false, false, false, false, false, false, false, false, false, false, false, false, false, false, false, false, false, false]) rfl ?_
                intro w26 hh hk
                replace B_gL := kp_blk B_gL hk (fun h => h)
                replace B_gN := kp_blk B_gN hk (fun h => h)
                replace K_0 := K_0.then_ hk (fun _ h => h.elim)
                replace K_s18 := K_s18.then_ hk (fun _ h => h.elim)
                replace K_s21 := K_s21.then_ hk (fun _ h => h.elim)
                clear hh hk
                refine d_take (v := Value.int .i64 ((costP (nn : Int) f9 (p : Int) (b : Int)).2)) p7_23_0 ns7_23 (by kernel_rfl) (by kernel_rfl) (fun _ _ _ h => h) hE wn_none rfl ⟨B_gL, B_gN, (FAh _ K_s18), trivial⟩ (fun W hS => (st_move rfl)) rfl ?_
                clear hE a; intro a hE
                refine d_take (v := Value.bool false) p7_23_1 ns7_23 (by kernel_rfl) (by kernel_rfl) (fun _ _ _ h => h) hE wn_none rfl ⟨B_gL, B_gN, (FAh _ K_s18), trivial⟩ (fun W hS => (st_neq (b := false) rfl rfl (by first | (rw [hc1]; rfl) | (rw [hsy, hc1]; rfl)))) rfl ?_
                clear hE a; intro a hE
                refine d_take (v := Value.bool false) p7_23_2 ns7_23 (by kernel_rfl) (by kernel_rfl) (fun _ _ _ h => h) hE wn_none rfl ⟨B_gL, B_gN, (FAh _ K_s18), trivial⟩ (fun W hS => (st_move rfl)) rfl ?_
                clear hE a; intro a hE
                refine d_take (v := Value.int .i64 ((costP (nn : Int) f9 (b : Int) (p : Int)).2)) p7_23_3 ns7_23 (by kernel_rfl) (by kernel_rfl) (fun _ _ _ h => h) hE (wn_some g7_23_2 rfl rfl) rfl ⟨B_gL, B_gN, (FAh _ K_s18), trivial⟩ (fun W hS => (st_move rfl)) rfl ?_
                clear hE a; intro a hE
                refine d_take (v := Value.bool false) p7_23_4 ns7_23 (by kernel_rfl) (by kernel_rfl) (fun _ _ _ h => h) hE (wn_some g7_23_2 rfl rfl) rfl ⟨B_gL, B_gN, (FAh _ K_s18), trivial⟩ (fun W hS => (st_neq (b := false) rfl rfl (by first | (rw [hc1]; rfl) | (rw [hsy, hc1]; rfl)))) rfl ?_
                clear hE a; intro a hE
                refine d_take (v := Value.bool false) p7_23_5 ns7_23 (by kernel_rfl) (by kernel_rfl) (fun _ _ _ h => h) hE wn_none rfl ⟨B_gL, B_gN, (FAh _ K_s18), trivial⟩ (fun W hS => (st_pick rfl rfl)) rfl ?_
                clear hE a; intro a hE
                refine d_take (v := Value.bool false) p7_23_6 ns7_23 (by kernel_rfl) (by kernel_rfl) (fun _ _ _ h => h) hE wn_none rfl ⟨B_gL, B_gN, (FAh _ K_s18), trivial⟩ (fun W hS => (st_move rfl)) rfl ?_
                clear hE a; intro a hE
                refine d_take (v := Value.int .i64 ((costP (nn : Int) f9 (p : Int) (b : Int)).1)) p7_23_7 ns7_23 (by kernel_rfl) (by kernel_rfl) (fun _ _ _ h => h) hE (wn_some g7_23_6 rfl rfl) rfl ⟨B_gL, B_gN, (FAh _ K_s18), trivial⟩ (fun W hS => (st_move rfl)) rfl ?_
                clear hE a; intro a hE
                refine d_take (v := Value.int .i64 ((costP (nn : Int) f9 (b : Int) (p : Int)).1)) p7_23_8 ns7_23 (by kernel_rfl) (by kernel_rfl) (fun _ _ _ h => h) hE (wn_some g7_23_6 rfl rfl) rfl ⟨B_gL, B_gN, (FAh _ K_s18), trivial⟩ (fun W hS => (st_move rfl)) rfl ?_
                clear hE a; intro a hE
                refine d_take (v := Value.bool false) p7_23_9 ns7_23 (by kernel_rfl) (by kernel_rfl) (fun _ _ _ h => h) hE (wn_some g7_23_6 rfl rfl) rfl ⟨B_gL, B_gN, (FAh _ K_s18), trivial⟩ (fun W hS => (st_neq (b := false) rfl rfl (by rw [hsy]; simp))) rfl ?_
                clear hE a; intro a hE
                refine d_take (v := Value.bool false) p7_23_10 ns7_23 (by kernel_rfl) (by kernel_rfl) (fun _ _ _ h => h) hE wn_none rfl ⟨B_gL, B_gN, (FAh _ K_s18), trivial⟩ (fun W hS => (st_pick rfl rfl)) rfl ?_
                clear hE a; intro a hE
                refine d_take (v := Value.bool false) p7_23_11 ns7_23 (by kernel_rfl) (by kernel_rfl) (fun _ _ _ h => h) hE wn_none rfl ⟨B_gL, B_gN, (FAh _ K_s18), trivial⟩ (fun W hS => (st_move rfl)) rfl ?_
                clear hE a; intro a hE
                refine d_take (v := Value.slice Ah nn ch) p7_23_12 ns7_23 (by kernel_rfl) (by kernel_rfl) (fun _ _ _ h => h) hE (wn_some g7_23_11 rfl rfl) rfl ⟨B_gL, B_gN, (FAh _ K_s18), trivial⟩ (fun W hS => (st_move rfl)) rfl ?_
                clear hE a; intro a hE
                refine d_take (v := Value.int .i64 (p : Int)) p7_23_13 ns7_23 (by kernel_rfl) (by kernel_rfl) (fun _ _ _ h => h) hE (wn_some g7_23_11 rfl rfl) rfl ⟨B_gL, B_gN, (FAh _ K_s18), trivial⟩ (fun W hS => (st_move rfl)) rfl ?_
                clear hE a; intro a hE
                refine d_take (v := Value.pointer (some (ea Ah p))) p7_23_14 ns7_23 (by kernel_rfl) (by kernel_rfl) (fun _ _ _ h => h) hE (wn_some g7_23_11 rfl rfl) rfl ⟨B_gL, B_gN, (FAh _ K_s18), trivial⟩ (fun W hS => (st_indexAddrS (i := p) Try.underlying52 tS3 (C_at (FAh _ K_s18) (show p < _ by omega)).1 rfl rfl (by omega))) rfl ?_
                clear hE a; intro a hE
                refine d_take (v := Value.int .i64 (rd hh (p : Int))) p7_23_15 ns7_23 (by kernel_rfl) (by kernel_rfl) (fun _ _ _ h => h) hE (wn_some g7_23_11 rfl rfl) rfl ⟨B_gL, B_gN, (FAh _ K_s18), trivial⟩ (fun W hS => (st_loadC (i := p) tA3 (hS.2.2.1) (by omega) rfl)) rfl ?_
                clear hE a; intro a hE
                refine d_take (v := Value.bool true) p7_23_16 ns7_23 (by kernel_rfl) (by kernel_rfl) (fun _ _ _ h => h) hE (wn_some g7_23_11 rfl rfl) rfl ⟨B_gL, B_gN, (FAh _ K_s18), trivial⟩ (fun W hS => (st_lss (b := true) rfl rfl (decide_eq_true (by omega)))) rfl ?_
                clear hE a; intro a hE
                refine d_take (v := Value.slice Ah nn ch) p7_23_17 ns7_23 (by kernel_rfl) (by kernel_rfl) (fun _ _ _ h => h) hE (wn_some g7_23_11 rfl rfl) rfl ⟨B_gL, B_gN, (FAh _ K_s18), trivial⟩ (fun W hS => (st_move rfl)) rfl ?_
                clear hE a; intro a hE
                refine d_take (v := Value.int .i64 (b : Int)) p7_23_18 ns7_23 (by kernel_rfl) (by kernel_rfl) (fun _ _ _ h => h) hE (wn_some g7_23_11 rfl rfl) rfl ⟨B_gL, B_gN, (FAh _ K_s18), trivial⟩ (fun W hS => (st_move rfl)) rfl ?_
                clear hE a; intro a hE
                refine d_take (v := Value.pointer (some (ea Ah b))) p7_23_19 ns7_23 (by kernel_rfl) (by kernel_rfl) (fun _ _ _ h => h) hE (wn_some g7_23_11 rfl rfl) rfl ⟨B_gL, B_gN, (FAh _ K_s18), trivial⟩ (fun W hS => (st_indexAddrS (i := b) Try.underlying52 tS3 (C_at (FAh _ K_s18) (show b < _ by omega)).1 rfl rfl (by omega))) rfl ?_
                clear hE a; intro a hE
                refine d_take (v := Value.int .i64 (rd hh (b : Int))) p7_23_20 ns7_23 (by kernel_rfl) (by kernel_rfl) (fun _ _ _ h => h) hE (wn_some g7_23_11 rfl rfl) rfl ⟨B_gL, B_gN, (FAh _ K_s18), trivial⟩ (fun W hS => (st_loadC (i := b) tA3 (hS.2.2.1) (by omega) rfl)) rfl ?_
                clear hE a; intro a hE
                refine d_take (v := Value.bool true) p7_23_21 ns7_23 (by kernel_rfl) (by kernel_rfl) (fun _ _ _ h => h) hE (wn_some g7_23_11 rfl rfl) rfl ⟨B_gL, B_gN, (FAh _ K_s18), trivial⟩ (fun W hS => (st_lss (b := true) rfl rfl (decide_eq_true (by omega)))) rfl ?_
                clear hE a; intro a hE
                refine d_take (v := Value.bool false) p7_23_22 ns7_23 (by kernel_rfl) (by kernel_rfl) (fun _ _ _ h => h) hE (wn_some g7_23_11 rfl rfl) rfl ⟨B_gL, B_gN, (FAh _ K_s18), trivial⟩ (fun W hS => (st_neqB (b := false) Try.underlying4 rfl rfl rfl)) rfl ?_
                clear hE a; intro a hE
                refine d_take (v := Value.bool false) p7_23_23 ns7_23 (by kernel_rfl) (by kernel_rfl) (fun _ _ _ h => h) hE wn_none rfl ⟨B_gL, B_gN, (FAh _ K_s18), trivial⟩ (fun W hS => (st_pick rfl rfl)) rfl ?_
                clear hE a; intro a hE
                refine d_take (v := Value.bool false) p7_23_24 ns7_23 (by kernel_rfl) (by kernel_rfl) (fun _ _ _ h => h) hE wn_none rfl ⟨B_gL, B_gN, (FAh _ K_s18), trivial⟩ (fun W hS => (st_move rfl)) rfl ?_
                clear hE a; intro a hE
                refine d_take (v := Value.slice Ah nn ch) p7_23_25 ns7_23 (by kernel_rfl) (by kernel_rfl) (fun _ _ _ h => h) hE (wn_some g7_23_24 rfl rfl) rfl ⟨B_gL, B_gN, (FAh _ K_s18), trivial⟩ (fun W hS => (st_move rfl)) rfl ?_
                clear hE a; intro a hE
                refine d_take (v := Value.int .i64 (p : Int)) p7_23_26 ns7_23 (by kernel_rfl) (by kernel_rfl) (fun _ _ _ h => h) hE (wn_some g7_23_24 rfl rfl) rfl ⟨B_gL, B_gN, (FAh _ K_s18), trivial⟩ (fun W hS => (st_move rfl)) rfl ?_
                clear hE a; intro a hE
                refine d_take (v := Value.pointer (some (ea Ah p))) p7_23_27 ns7_23 (by kernel_rfl) (by kernel_rfl) (fun _ _ _ h => h) hE (wn_some g7_23_24 rfl rfl) rfl ⟨B_gL, B_gN, (FAh _ K_s18), trivial⟩ (fun W hS => (st_indexAddrS (i := p) Try.underlying52 tS3 (C_at (FAh _ K_s18) (show p < _ by omega)).1 rfl rfl (by omega))) rfl ?_
                clear hE a; intro a hE
                refine d_take (v := Value.int .i64 (rd hh (p : Int))) p7_23_28 ns7_23 (by kernel_rfl) (by kernel_rfl) (fun _ _ _ h => h) hE (wn_some g7_23_24 rfl rfl) rfl ⟨B_gL, B_gN, (FAh _ K_s18), trivial⟩ (fun W hS => (st_loadC (i := p) tA3 (hS.2.2.1) (by omega) rfl)) rfl ?_
                clear hE a; intro a hE
                refine d_take (v := Value.slice Ah nn ch) p7_23_29 ns7_23 (by kernel_rfl) (by kernel_rfl) (fun _ _ _ h => h) hE (wn_some g7_23_24 rfl rfl) rfl ⟨B_gL, B_gN, (FAh _ K_s18), trivial⟩ (fun W hS => (st_move rfl)) rfl ?_
                clear hE a; intro a hE
                refine d_take (v := Value.int .i64 (b : Int)) p7_23_30 ns7_23 (by kernel_rfl) (by kernel_rfl) (fun _ _ _ h => h) hE (wn_some g7_23_24 rfl rfl) rfl ⟨B_gL, B_gN, (FAh _ K_s18), trivial⟩ (fun W hS => (st_move rfl)) rfl ?_
                clear hE a; intro a hE
                refine d_take (v := Value.pointer (some (ea Ah b))) p7_23_31 ns7_23 (by kernel_rfl) (by kernel_rfl) (fun _ _ _ h => h) hE (wn_some g7_23_24 rfl rfl) rfl ⟨B_gL, B_gN, (FAh _ K_s18), trivial⟩ (fun W hS => (st_indexAddrS (i := b) Try.underlying52 tS3 (C_at (FAh _ K_s18) (show b < _ by omega)).1 rfl rfl (by omega))) rfl ?_
                clear hE a; intro a hE
                refine d_take (v := Value.int .i64 (rd hh (b : Int))) p7_23_32 ns7_23 (by kernel_rfl) (by kernel_rfl) (fun _ _ _ h => h) hE (wn_some g7_23_24 rfl rfl) rfl ⟨B_gL, B_gN, (FAh _ K_s18), trivial⟩ (fun W hS => (st_loadC (i := b) tA3 (hS.2.2.1) (by omega) rfl)) rfl ?_
                clear hE a; intro a hE
                refine d_take (v := Value.int .i64 ((rd hh (p : Int)) - (rd hh (b : Int)))) p7_23_33 ns7_23 (by kernel_rfl) (by kernel_rfl) (fun _ _ _ h => h) hE (wn_some g7_23_24 rfl rfl) rfl ⟨B_gL, B_gN, (FAh _ K_s18), trivial⟩ (fun W hS => (st_sub (z := (rd hh (p : Int)) - (rd hh (b : Int))) rfl rfl (wr_i64 _ (by omega) (by omega)))) rfl ?_
                clear hE a; intro a hE
                refine d_take (v := Value.bool false) p7_23_34 ns7_23 (by kernel_rfl) (by kernel_rfl) (fun _ _ _ h => h) hE (wn_some g7_23_24 rfl rfl) rfl ⟨B_gL, B_gN, (FAh _ K_s18), trivial⟩ (fun W hS => (st_gtr (b := false) rfl rfl (decide_eq_false (by omega)))) rfl ?_
                clear hE a; intro a hE
                refine d_take (v := Value.bool false) p7_23_35 ns7_23 (by kernel_rfl) (by kernel_rfl) (fun _ _ _ h => h) hE wn_none rfl ⟨B_gL, B_gN, (FAh _ K_s18), trivial⟩ (fun W hS => (st_pick rfl rfl)) rfl ?_
                clear hE a; intro a hE
                refine d_take (v := Value.bool false) p7_23_36 ns7_23 (by kernel_rfl) (by kernel_rfl) (fun _ _ _ h => h) hE wn_none rfl ⟨B_gL, B_gN, (FAh _ K_s18), trivial⟩ (fun W hS => (st_move rfl)) rfl ?_
                clear hE a; intro a hE
                refine d_take (v := Value.slice Ah nn ch) p7_23_37 ns7_23 (by kernel_rfl) (by kernel_rfl) (fun _ _ _ h => h) hE (wn_some g7_23_36 rfl rfl) rfl ⟨B_gL, B_gN, (FAh _ K_s18), trivial⟩ (fun W hS => (st_move rfl)) rfl ?_
                clear hE a; intro a hE
                refine d_take (v := Value.int .i64 (b : Int)) p7_23_38 ns7_23 (by kernel_rfl) (by kernel_rfl) (fun _ _ _ h => h) hE (wn_some g7_23_36 rfl rfl) rfl ⟨B_gL, B_gN, (FAh _ K_s18), trivial⟩ (fun W hS => (st_move rfl)) rfl ?_
                clear hE a; intro a hE
                refine d_take (v := Value.pointer (some (ea Ah b))) p7_23_39 ns7_23 (by kernel_rfl) (by kernel_rfl) (fun _ _ _ h => h) hE (wn_some g7_23_36 rfl rfl) rfl ⟨B_gL, B_gN, (FAh _ K_s18), trivial⟩ (fun W hS => (st_indexAddrS (i := b) Try.underlying52 tS3 (C_at (FAh _ K_s18) (show b < _ by omega)).1 rfl rfl (by omega))) rfl ?_
                clear hE a; intro a hE
                refine d_take (v := Value.int .i64 (rd hh (b : Int))) p7_23_40 ns7_23 (by kernel_rfl) (by kernel_rfl) (fun _ _ _ h => h) hE (wn_some g7_23_36 rfl rfl) rfl ⟨B_gL, B_gN, (FAh _ K_s18), trivial⟩ (fun W hS => (st_loadC (i := b) tA3 (hS.2.2.1) (by omega) rfl)) rfl ?_
                clear hE a; intro a hE
                refine d_take (v := Value.slice Ah nn ch) p7_23_41 ns7_23 (by kernel_rfl) (by kernel_rfl) (fun _ _ _ h => h) hE (wn_some g7_23_36 rfl rfl) rfl ⟨B_gL, B_gN, (FAh _ K_s18), trivial⟩ (fun W hS => (st_move rfl)) rfl ?_
                clear hE a; intro a hE
                refine d_take (v := Value.int .i64 (p : Int)) p7_23_42 ns7_23 (by kernel_rfl) (by kernel_rfl) (fun _ _ _ h => h) hE (wn_some g7_23_36 rfl rfl) rfl ⟨B_gL, B_gN, (FAh _ K_s18), trivial⟩ (fun W hS => (st_move rfl)) rfl ?_
                clear hE a; intro a hE
                refine d_take (v := Value.pointer (some (ea Ah p))) p7_23_43 ns7_23 (by kernel_rfl) (by kernel_rfl) (fun _ _ _ h => h) hE (wn_some g7_23_36 rfl rfl) rfl ⟨B_gL, B_gN, (FAh _ K_s18), trivial⟩ (fun W hS => (st_indexAddrS (i := p) Try.underlying52 tS3 (C_at (FAh _ K_s18) (show p < _ by omega)).1 rfl rfl (by omega))) rfl ?_
                clear hE a; intro a hE
                refine d_take (v := Value.int .i64 (rd hh (p : Int))) p7_23_44 ns7_23 (by kernel_rfl) (by kernel_rfl) (fun _ _ _ h => h) hE (wn_some g7_23_36 rfl rfl) rfl ⟨B_gL, B_gN, (FAh _ K_s18), trivial⟩ (fun W hS => (st_loadC (i := p) tA3 (hS.2.2.1) (by omega) rfl)) rfl ?_
                clear hE a; intro a hE
                refine d_take (v := Value.int .i64 ((rd hh (b : Int)) - (rd hh (p : Int)))) p7_23_45 ns7_23 (by kernel_rfl) (by kernel_rfl) (fun _ _ _ h => h) hE (wn_some g7_23_36 rfl rfl) rfl ⟨B_gL, B_gN, (FAh _ K_s18), trivial⟩ (fun W hS => (st_sub (z := (rd hh (b : Int)) - (rd hh (p : Int))) rfl rfl (wr_i64 _ (by omega) (by omega)))) rfl ?_
                clear hE a; intro a hE
                refine d_take (v := Value.bool false) p7_23_46 ns7_23 (by kernel_rfl) (by kernel_rfl) (fun _ _ _ h => h) hE (wn_some g7_23_36 rfl rfl) rfl ⟨B_gL, B_gN, (FAh _ K_s18), trivial⟩ (fun W hS => (st_gtr (b := false) rfl rfl (decide_eq_false (by omega)))) rfl ?_
                clear hE a; intro a hE
                refine d_take (v := Value.bool false) p7_23_47 ns7_23 (by kernel_rfl) (by kernel_rfl) (fun _ _ _ h => h) hE wn_none rfl ⟨B_gL, B_gN, (FAh _ K_s18), trivial⟩ (fun W hS => (st_pick rfl rfl)) rfl ?_
                clear hE a; intro a hE
                refine d_end (by kernel_rfl) ?_
                refine x_norm ?_
                refine c_cond (t := false) hE rfl ?_
                refine wp_skip ?_
                refine x_normB ?_
                refine x_norm ?_
                refine c_regL R7_19_l ?_
                refine q0 p7_19_0 hE (st_move rfl) ?_
                clear hE a; intro a hE
                refine q0 p7_19_1 hE (st_add (z := (q : Int) + 1) rfl rfl (wr_i64 _ (by omega) (by omega))) ?_
                clear hE a; intro a hE
                refine q0 p7_19_2 hE (st_assign rfl) ?_
                clear hE a; intro a hE
                refine p_nil ?_
                refine x_norm ?_
                exact ⟨q + 1, by omega, En.sub hE ⟨rfl, rfl, rfl, rfl, rfl, rfl, rfl, rfl, rfl, rfl, rfl, rfl, rfl, rfl, trivial⟩, by omega, B_gL, B_gN, K_0, K_s18, K_s21⟩
            ·
              refine c_reg R7_18_l ?_
              refine q0 p7_18_0 hE (st_move rfl) ?_
              clear hE a; intro a hE
              refine q0 p7_18_1 hE (st_move rfl) ?_
              clear hE a; intro a hE
              refine q0 p7_18_2 hE (st_len Try.underlying52 rfl) ?_
              clear hE a; intro a hE
              refine q0 p7_18_3 hE (st_lss (b := false) rfl rfl (decide_eq_false hQ1)) ?_
              clear hE a; intro a hE
              refine p_nil ?_
              refine x_norm ?_
              refine c_cond (t := false) hE rfl ?_
              refine wp_exit ?_
              refine x_exit ?_
              refine x_exit ?_
              refine x_in ?_
              refine x_normB ?_
              refine x_norm ?_
              refine c_regL R7_15_l ?_
              refine q0 p7_15_0 hE (st_move rfl) ?_
              clear hE a; intro a hE
              refine q0 p7_15_1 hE (st_add (z := (p : Int) + 1) rfl rfl (wr_i64 _ (by omega) (by omega))) ?_
              clear hE a; intro a hE
              refine q0 p7_15_2 hE (st_assign rfl) ?_
              clear hE a; intro a hE
              refine p_nil ?_
              refine x_norm ?_
              exact ⟨p + 1, by omega, En.sub hE ⟨rfl, rfl, rfl, rfl, rfl, rfl, rfl, rfl, rfl, rfl, rfl, trivial⟩, by omega, B_gL, B_gN, K_0, K_s18⟩
        ·
          refine c_reg R7_14_l ?_
          refine q0 p7_14_0 hE (st_move rfl) ?_
          clear hE a; intro a hE
          refine q0 p7_14_1 hE (st_move rfl) ?_
          clear hE a; intro a hE
          refine q0 p7_14_2 hE (st_lss (b := false) rfl rfl (decide_eq_false hP1)) ?_
          clear hE a; intro a hE
          refine p_nil ?_
          refine x_norm ?_
          refine c_cond (t := false) hE rfl ?_
          refine wp_exit ?_
          refine x_exit ?_
          refine x_exit ?_
          refine x_in ?_
          refine x_norm ?_
          refine c_reg R7_25_l ?_
          refine p_cons (s_call (xs := []) (args := []) p7_25_0 hE wn_none rfl rfl Try.func33 cl33 (kn26  _) ?_)
          rintro e w27 ⟨rfl, hk⟩
          replace B_gL := kp_blk B_gL hk (fun h => h)
          replace B_gN := kp_blk B_gN hk (fun h => h)
          replace K_0 := K_0.then_ hk (fun _ h => h.elim)
          replace K_s18 := K_s18.then_ hk (fun _ h => h.elim)
          refine ⟨_, rfl, ?_⟩
          clear hE a; intro a hE
          refine q0 p7_25_1 hE (st_assign rfl) ?_
          clear hE a; intro a hE
          refine p_nil ?_
          refine x_norm ?_
          refine wp_ret ?_
          refine ret_one (v := Value.bool true) rfl hE (.tmp rfl .nil) ?_
          exact ⟨rfl, K_0.to (Nat.le_refl _) (fun _ h => h.elim)⟩
end Go.Proofs.Ytpnpfapdjdcnbaa.Ll
