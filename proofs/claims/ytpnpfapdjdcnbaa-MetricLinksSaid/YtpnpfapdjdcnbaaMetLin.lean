/- The law MetricLinks, walked. -/
import Derived.Test.YtpnpfapdjdcnbaaMetLin0
set_option maxRecDepth 100000
set_option linter.unusedVariables false
set_option linter.unusedSimpArgs false
namespace Go.Proofs.Ytpnpfapdjdcnbaa.MLin
open Go.RowKit Go.Proofs.YtpnpfapdjdcnbaaW.PrintWords Go.Proofs.Ytpnpfapdjdcnbaa.Ds Go.Proofs.Ytpnpfapdjdcnbaa.Fl Go.Proofs.Ytpnpfapdjdcnbaa.Me Go.Proofs.Ytpnpfapdjdcnbaa.MCos Go.Proofs.Ytpnpfapdjdcnbaa.KdOpen
open Go.Proofs.Ytpnpfapdjdcnbaa.Pk (Kp)
open Ieee (double)
theorem Set_ok (b m x : Nat) (is : Bool) (s : Int) (hx : x < 18446744073709551616) (w : World) (hb : w.heap[b]? = some (.cells #[.float .f64 m, .bool is, .int .i64 s] 38 (0, 0))) (h : right x) : Calls Try.prog 20 #[.pointer (some ⟨b, 0, none⟩), .float .f64 x] w fun e w' => e = .returned (.int .i64 0) ∧ w'.heap[b]? = some (.cells #[.float .f64 x, .bool true, .int .i64 s] 38 (0, 0)) ∧ Kp w w' (fun k => k = b) := Set_R b m x is s hx w hb (fun h2 w' hk => ⟨rfl, hk⟩) (fun h2 w' hk => absurd h h2)
theorem Set_no (b m x : Nat) (is : Bool) (s : Int) (hx : x < 18446744073709551616) (w : World) (hb : w.heap[b]? = some (.cells #[.float .f64 m, .bool is, .int .i64 s] 38 (0, 0))) (h : ¬ right x) : Calls Try.prog 20 #[.pointer (some ⟨b, 0, none⟩), .float .f64 x] w fun e w' => e = .returned (.int .i64 1) ∧ w'.heap[b]? = some (.cells #[.float .f64 m, .bool is, .int .i64 s] 38 (0, 0)) ∧ Kp w w' (fun k => k = b) := Set_R b m x is s hx w hb (fun h2 w' hk => absurd h2 h) (fun h2 w' hk => ⟨rfl, hk⟩)
theorem R5_0_l : List.range (regOf Try.f5 0).size = [0] := by kernel_rfl
theorem R5_1_l : List.range (regOf Try.f5 1).size = [0, 1, 2] := by kernel_rfl
theorem R5_2_l : List.range (regOf Try.f5 2).size = [0, 1, 2] := by kernel_rfl
theorem R5_3_l : List.range (regOf Try.f5 3).size = [0] := by kernel_rfl
theorem R5_4_l : List.range (regOf Try.f5 4).size = [0, 1, 2, 3, 4, 5, 6, 7] := by kernel_rfl
theorem R5_6_l : List.range (regOf Try.f5 6).size = [0, 1, 2, 3, 4, 5] := by kernel_rfl
theorem R5_7_l : List.range (regOf Try.f5 7).size = [0] := by kernel_rfl
theorem R5_8_l : List.range (regOf Try.f5 8).size = [0, 1, 2, 3] := by kernel_rfl
theorem R5_14_l : List.range (regOf Try.f5 14).size = [0, 1] := by kernel_rfl
theorem R5_15_l : List.range (regOf Try.f5 15).size = [0, 1, 2, 3, 4] := by kernel_rfl
theorem R5_16_l : List.range (regOf Try.f5 16).size = [0, 1, 2, 3, 4, 5, 6, 7] := by kernel_rfl
theorem R5_17_l : List.range (regOf Try.f5 17).size = [0, 1, 2] := by kernel_rfl
theorem R5_18_l : List.range (regOf Try.f5 18).size = [0, 1, 2] := by kernel_rfl
theorem R5_19_l : List.range (regOf Try.f5 19).size = [0, 1, 2, 3] := by kernel_rfl
theorem R5_20_l : List.range (regOf Try.f5 20).size = [0, 1] := by kernel_rfl
theorem R5_21_l : List.range (regOf Try.f5 21).size = [0, 1] := by kernel_rfl
theorem R5_22_l : List.range (regOf Try.f5 22).size = [0, 1] := by kernel_rfl
theorem R5_23_l : List.range (regOf Try.f5 23).size = [0, 1] := by kernel_rfl
theorem R5_24_l : List.range (regOf Try.f5 24).size = [0, 1, 2, 3, 4] := by kernel_rfl
theorem R5_25_l : List.range (regOf Try.f5 25).size = [0, 1, 2] := by kernel_rfl
theorem R5_26_l : List.range (regOf Try.f5 26).size = [0, 1, 2] := by kernel_rfl
theorem R5_27_l : List.range (regOf Try.f5 27).size = [0, 1, 2, 3, 4, 5, 6, 7, 8, 9] := by kernel_rfl
theorem R5_28_l : List.range (regOf Try.f5 28).size = [0, 1, 2] := by kernel_rfl
theorem R5_9_l : List.range (regOf Try.f5 9).size = [0, 1, 2] := by kernel_rfl
theorem R5_10_l : List.range (regOf Try.f5 10).size = [0, 1] := by kernel_rfl
theorem R5_11_l : List.range (regOf Try.f5 11).size = [0] := by kernel_rfl
theorem R5_12_l : List.range (regOf Try.f5 12).size = [0, 1] := by kernel_rfl
theorem R5_13_l : List.range (regOf Try.f5 13).size = [0, 1] := by kernel_rfl
theorem R5_29_l : List.range (regOf Try.f5 29).size = [0, 1, 2, 3, 4, 5, 6] := by kernel_rfl
theorem R5_30_l : List.range (regOf Try.f5 30).size = [0] := by kernel_rfl
theorem R5_31_l : List.range (regOf Try.f5 31).size = [0, 1, 2, 3] := by kernel_rfl
theorem R5_32_l : List.range (regOf Try.f5 32).size = [0, 1, 2, 3, 4, 5] := by kernel_rfl
theorem R5_33_l : List.range (regOf Try.f5 33).size = [0, 1, 2, 3, 4, 5, 6, 7, 8, 9, 10, 11, 12, 13, 14, 15, 16, 17, 18, 19, 20, 21, 22, 23, 24, 25, 26, 27, 28, 29, 30, 31, 32, 33, 34, 35, 36, 37, 38, 39, 40, 41, 42, 43, 44, 45, 46] := by kernel_rfl
theorem R5_34_l : List.range (regOf Try.f5 34).size = [0] := by kernel_rfl
theorem R5_5_l : List.range (regOf Try.f5 5).size = [0, 1, 2] := by kernel_rfl
theorem R5_35_l : List.range (regOf Try.f5 35).size = [0, 1] := by kernel_rfl
theorem body5 : Try.f5.body = some (.seq (.region 0 (regOf Try.f5 0) false) (.seq (.region 1 (regOf Try.f5 1) false) (.seq (.region 2 (regOf Try.f5 2) false) (.seq (.seq (.region 3 (regOf Try.f5 3) false) (.block 0 (.loop (.seq (.seq (.region 4 (regOf Try.f5 4) false) (.cond (Operand.tmp 25) (.skip) (.exit 0))) (.seq (.block 1 (.seq (.region 6 (regOf Try.f5 6) false) (.seq (.region 7 (regOf Try.f5 7) false) (.seq (.seq (.region 8 (regOf Try.f5 8) false) (.block 2 (.seq (.region 14 (regOf Try.f5 14) false) (.cond (Operand.tmp 43) (.seq (.region 15 (regOf Try.f5 15) false) (.seq (.region 16 (regOf Try.f5 16) false) (.cond (Operand.tmp 56) (.region 17 (regOf Try.f5 17) false) (.seq (.region 18 (regOf Try.f5 18) false) (.region 19 (regOf Try.f5 19) false))))) (.seq (.region 20 (regOf Try.f5 20) false) (.cond (Operand.tmp 65) (.seq (.region 21 (regOf Try.f5 21) false) (.region 22 (regOf Try.f5 22) false)) (.seq (.region 23 (regOf Try.f5 23) false) (.cond (Operand.tmp 71) (.seq (.region 24 (regOf Try.f5 24) false) (.seq (.region 25 (regOf Try.f5 25) false) (.cond (Operand.tmp 79) (.seq (.region 26 (regOf Try.f5 26) false) (.region 27 (regOf Try.f5 27) false)) (.region 28 (regOf Try.f5 28) false)))) (.seq (.region 9 (regOf Try.f5 9) false) (.seq (.seq (.region 10 (regOf Try.f5 10) false) (.cond (Operand.tmp 39) (.seq (.region 11 (regOf Try.f5 11) false) (.ret)) (.skip))) (.seq (.region 12 (regOf Try.f5 12) false) (.region 13 (regOf Try.f5 13) false)))))))))))) (.seq (.region 29 (regOf Try.f5 29) false) (.seq (.region 30 (regOf Try.f5 30) false) (.seq (.seq (.region 31 (regOf Try.f5 31) false) (.cond (Operand.tmp 100) (.region 32 (regOf Try.f5 32) false) (.skip))) (.seq (.region 33 (regOf Try.f5 33) true) (.cond (Operand.tmp 152) (.seq (.region 34 (regOf Try.f5 34) false) (.ret)) (.skip)))))))))) (.region 5 (regOf Try.f5 5) false)))))) (.seq (.region 35 (regOf Try.f5 35) false) (.ret)))))) := by kernel_rfl
theorem p5_0_0 : pj (regOf Try.f5 0) 0 = some (some 2, Op.assign (Operand.const (Value.bool false)), 4, none) := by kernel_rfl
theorem p5_1_0 : pj (regOf Try.f5 1) 0 = some (some 14, Op.build 38 #[], 38, none) := by kernel_rfl
theorem p5_1_1 : pj (regOf Try.f5 1) 1 = some (some 15, Op.box 38 (Operand.tmp 14), 34, none) := by kernel_rfl
theorem p5_1_2 : pj (regOf Try.f5 1) 2 = some (some 3, Op.assign (Operand.tmp 15), 34, none) := by kernel_rfl
theorem p5_2_0 : pj (regOf Try.f5 2) 0 = some (some 16, Op.build 41 #[], 41, none) := by kernel_rfl
theorem p5_2_1 : pj (regOf Try.f5 2) 1 = some (some 17, Op.box 41 (Operand.tmp 16), 39, none) := by kernel_rfl
theorem p5_2_2 : pj (regOf Try.f5 2) 2 = some (some 4, Op.assign (Operand.tmp 17), 39, none) := by kernel_rfl
theorem p5_3_0 : pj (regOf Try.f5 3) 0 = some (some 5, Op.assign (Operand.const (Value.int IntKind.i64 0)), 3, none) := by kernel_rfl
theorem p5_4_0 : pj (regOf Try.f5 4) 0 = some (some 18, Op.move (Operand.tmp 5), 3, none) := by kernel_rfl
theorem p5_4_1 : pj (regOf Try.f5 4) 1 = some (some 19, Op.move (Operand.tmp 0), 33, none) := by kernel_rfl
theorem p5_4_2 : pj (regOf Try.f5 4) 2 = some (some 20, Op.call { callee := Callee.builtin Builtin.len, args := #[Operand.tmp 19], argTypes := #[33] }, 3, none) := by kernel_rfl
theorem p5_4_3 : pj (regOf Try.f5 4) 3 = some (some 21, Op.binOp BinOp.lss 3 (Operand.tmp 18) (Operand.tmp 20) 3, 4, none) := by kernel_rfl
theorem p5_4_4 : pj (regOf Try.f5 4) 4 = some (some 22, Op.move (Operand.tmp 21), 4, none) := by kernel_rfl
theorem p5_4_5 : pj (regOf Try.f5 4) 5 = some (some 23, Op.move (Operand.tmp 5), 3, some (4, true)) := by kernel_rfl
theorem g5_4_4 : dstOf (regOf Try.f5 4) 4 = some 22 := by kernel_rfl
theorem p5_4_6 : pj (regOf Try.f5 4) 6 = some (some 24, Op.binOp BinOp.lss 3 (Operand.tmp 23) (Operand.const (Value.int IntKind.i64 60)) 3, 4, some (4, true)) := by kernel_rfl
theorem p5_4_7 : pj (regOf Try.f5 4) 7 = some (some 25, Op.pick (Operand.tmp 22) (Operand.tmp 24) (Operand.const (Value.bool false)), 4, none) := by kernel_rfl
theorem p5_6_0 : pj (regOf Try.f5 6) 0 = some (some 28, Op.move (Operand.tmp 0), 33, none) := by kernel_rfl
theorem p5_6_1 : pj (regOf Try.f5 6) 1 = some (some 29, Op.move (Operand.tmp 5), 3, none) := by kernel_rfl
theorem p5_6_2 : pj (regOf Try.f5 6) 2 = some (some 30, Op.indexAddr 33 (Operand.tmp 28) (Operand.tmp 29), 0, none) := by kernel_rfl
theorem tS43 : (Try.prog.info? 43).map (·.size) = some 3 := by kernel_rfl
theorem p5_6_3 : pj (regOf Try.f5 6) 3 = some (some 31, Op.load 43 (Operand.tmp 30), 43, none) := by kernel_rfl
theorem tA43 : (Try.prog.underlying 43).map aggD = some true := by kernel_rfl
theorem p5_6_4 : pj (regOf Try.f5 6) 4 = some (some 6, Op.alloc 43, 0, none) := by kernel_rfl
theorem tZ43 : (Try.prog.info? 43).bind (·.zero) = some (Value.agg #[Value.int .i64 0, Value.int .i64 0, Value.float .f64 0]) := by kernel_rfl
theorem p5_6_5 : pj (regOf Try.f5 6) 5 = some (none, Op.store 43 (Operand.tmp 6) (Operand.tmp 31), 0, none) := by kernel_rfl
theorem p5_7_0 : pj (regOf Try.f5 7) 0 = some (some 7, Op.assign (Operand.const (Value.bool true)), 4, none) := by kernel_rfl
theorem p5_8_0 : pj (regOf Try.f5 8) 0 = some (some 32, Op.fieldAddr 43 (Operand.tmp 6) 0, 0, none) := by kernel_rfl
theorem p5_8_1 : pj (regOf Try.f5 8) 1 = some (some 33, Op.load 3 (Operand.tmp 32), 3, none) := by kernel_rfl
theorem p5_8_2 : pj (regOf Try.f5 8) 2 = some (some 34, Op.convert 3 44 (Operand.tmp 33), 44, none) := by kernel_rfl
theorem p5_8_3 : pj (regOf Try.f5 8) 3 = some (some 35, Op.binOp BinOp.rem 44 (Operand.tmp 34) (Operand.const (Value.int IntKind.u64 4)) 44, 44, none) := by kernel_rfl
theorem p5_14_0 : pj (regOf Try.f5 14) 0 = some (some 44, Op.binOp BinOp.eql 44 (Operand.tmp 35) (Operand.const (Value.int IntKind.u64 0)) 44, 4, none) := by kernel_rfl
theorem p5_14_1 : pj (regOf Try.f5 14) 1 = some (some 43, Op.assign (Operand.tmp 44), 4, none) := by kernel_rfl
theorem p5_15_0 : pj (regOf Try.f5 15) 0 = some (some 45, Op.move (Operand.tmp 3), 34, none) := by kernel_rfl
theorem p5_15_1 : pj (regOf Try.f5 15) 1 = some (some 46, Op.fieldAddr 43 (Operand.tmp 6) 1, 0, none) := by kernel_rfl
theorem p5_15_2 : pj (regOf Try.f5 15) 2 = some (some 47, Op.load 3 (Operand.tmp 46), 3, none) := by kernel_rfl
theorem p5_15_3 : pj (regOf Try.f5 15) 3 = some (some 48, Op.call { callee := Callee.value (Operand.func 17), args := #[Operand.tmp 45, Operand.tmp 47], argTypes := #[34, 3] }, 23, none) := by kernel_rfl
theorem cl17 : callable Try.f17 = true := by kernel_rfl
theorem p5_15_4 : pj (regOf Try.f5 15) 4 = some (some 8, Op.assign (Operand.tmp 48), 23, none) := by kernel_rfl
theorem p5_16_0 : pj (regOf Try.f5 16) 0 = some (some 49, Op.fieldAddr 43 (Operand.tmp 6) 1, 0, none) := by kernel_rfl
theorem p5_16_1 : pj (regOf Try.f5 16) 1 = some (some 50, Op.load 3 (Operand.tmp 49), 3, none) := by kernel_rfl
theorem p5_16_2 : pj (regOf Try.f5 16) 2 = some (some 51, Op.binOp BinOp.lss 3 (Operand.tmp 50) (Operand.const (Value.int IntKind.i64 1)) 3, 4, none) := by kernel_rfl
theorem p5_16_3 : pj (regOf Try.f5 16) 3 = some (some 52, Op.move (Operand.tmp 51), 4, none) := by kernel_rfl
theorem p5_16_4 : pj (regOf Try.f5 16) 4 = some (some 53, Op.fieldAddr 43 (Operand.tmp 6) 1, 0, some (3, false)) := by kernel_rfl
theorem g5_16_3 : dstOf (regOf Try.f5 16) 3 = some 52 := by kernel_rfl
theorem p5_16_5 : pj (regOf Try.f5 16) 5 = some (some 54, Op.load 3 (Operand.tmp 53), 3, some (3, false)) := by kernel_rfl
theorem p5_16_6 : pj (regOf Try.f5 16) 6 = some (some 55, Op.binOp BinOp.gtr 3 (Operand.tmp 54) (Operand.const (Value.int IntKind.i64 16)) 3, 4, some (3, false)) := by kernel_rfl
theorem p5_16_7 : pj (regOf Try.f5 16) 7 = some (some 56, Op.pick (Operand.tmp 52) (Operand.const (Value.bool true)) (Operand.tmp 55), 4, none) := by kernel_rfl
theorem p5_18_0 : pj (regOf Try.f5 18) 0 = some (some 59, Op.move (Operand.tmp 8), 23, none) := by kernel_rfl
theorem p5_18_1 : pj (regOf Try.f5 18) 1 = some (some 60, Op.binOp BinOp.eql 23 (Operand.tmp 59) (Operand.const (Value.int IntKind.i64 0)) 23, 4, none) := by kernel_rfl
theorem p5_18_2 : pj (regOf Try.f5 18) 2 = some (some 7, Op.assign (Operand.tmp 60), 4, none) := by kernel_rfl
theorem p5_19_0 : pj (regOf Try.f5 19) 0 = some (some 61, Op.move (Operand.tmp 4), 39, none) := by kernel_rfl
theorem p5_19_1 : pj (regOf Try.f5 19) 1 = some (some 62, Op.fieldAddr 43 (Operand.tmp 6) 1, 0, none) := by kernel_rfl
theorem p5_19_2 : pj (regOf Try.f5 19) 2 = some (some 63, Op.load 3 (Operand.tmp 62), 3, none) := by kernel_rfl
theorem p5_19_3 : pj (regOf Try.f5 19) 3 = some (some 64, Op.call { callee := Callee.value (Operand.func 18), args := #[Operand.tmp 61, Operand.tmp 63], argTypes := #[39, 3] }, 0, none) := by kernel_rfl
theorem cl18 : callable Try.f18 = true := by kernel_rfl
theorem p5_29_0 : pj (regOf Try.f5 29) 0 = some (some 93, Op.move (Operand.tmp 3), 34, none) := by kernel_rfl
theorem p5_29_1 : pj (regOf Try.f5 29) 1 = some (some 94, Op.call { callee := Callee.value (Operand.func 22), args := #[Operand.tmp 93], argTypes := #[34] }, 28, none) := by kernel_rfl
theorem cl22 : callable Try.f22 = true := by kernel_rfl
theorem p5_29_2 : pj (regOf Try.f5 29) 2 = some (some 92, Op.move (Operand.tmp 94), 28, none) := by kernel_rfl
theorem p5_29_3 : pj (regOf Try.f5 29) 3 = some (some 95, Op.extract (Operand.tmp 92) 0, 22, none) := by kernel_rfl
theorem p5_29_4 : pj (regOf Try.f5 29) 4 = some (some 96, Op.extract (Operand.tmp 92) 1, 23, none) := by kernel_rfl
theorem p5_29_5 : pj (regOf Try.f5 29) 5 = some (some 11, Op.assign (Operand.tmp 95), 22, none) := by kernel_rfl
theorem p5_29_6 : pj (regOf Try.f5 29) 6 = some (some 12, Op.assign (Operand.tmp 96), 23, none) := by kernel_rfl
theorem p5_30_0 : pj (regOf Try.f5 30) 0 = some (some 13, Op.assign (Operand.const (Value.int IntKind.i64 65535)), 3, none) := by kernel_rfl
theorem p5_31_0 : pj (regOf Try.f5 31) 0 = some (some 97, Op.move (Operand.tmp 4), 39, none) := by kernel_rfl
theorem p5_31_1 : pj (regOf Try.f5 31) 1 = some (some 98, Op.nilCheck (Operand.tmp 97), 0, none) := by kernel_rfl
theorem p5_31_2 : pj (regOf Try.f5 31) 2 = some (some 99, Op.fieldAddr 41 (Operand.tmp 98) 1, 0, none) := by kernel_rfl
theorem p5_31_3 : pj (regOf Try.f5 31) 3 = some (some 100, Op.load 4 (Operand.tmp 99), 4, none) := by kernel_rfl
theorem p5_32_0 : pj (regOf Try.f5 32) 0 = some (some 101, Op.move (Operand.tmp 4), 39, none) := by kernel_rfl
theorem p5_32_1 : pj (regOf Try.f5 32) 1 = some (some 102, Op.nilCheck (Operand.tmp 101), 0, none) := by kernel_rfl
theorem p5_32_2 : pj (regOf Try.f5 32) 2 = some (some 103, Op.fieldAddr 41 (Operand.tmp 102) 0, 0, none) := by kernel_rfl
theorem p5_32_3 : pj (regOf Try.f5 32) 3 = some (some 104, Op.load 22 (Operand.tmp 103), 22, none) := by kernel_rfl
theorem p5_32_4 : pj (regOf Try.f5 32) 4 = some (some 105, Op.call { callee := Callee.value (Operand.func 15), args := #[Operand.tmp 104], argTypes := #[22] }, 3, none) := by kernel_rfl
theorem cl15 : callable Try.f15 = true := by kernel_rfl
theorem p5_32_5 : pj (regOf Try.f5 32) 5 = some (some 13, Op.assign (Operand.tmp 105), 3, none) := by kernel_rfl
theorem ns5_33 : Region.noSelect (regOf Try.f5 33) = true := by kernel_rfl
theorem p5_33_0 : pj (regOf Try.f5 33) 0 = some (some 106, Op.move (Operand.tmp 7), 4, none) := by kernel_rfl
theorem p5_33_1 : pj (regOf Try.f5 33) 1 = some (some 107, Op.unOp UnOp.not 4 (Operand.tmp 106), 4, none) := by kernel_rfl
theorem p5_33_2 : pj (regOf Try.f5 33) 2 = some (some 108, Op.move (Operand.tmp 107), 4, none) := by kernel_rfl
theorem g5_33_2 : dstOf (regOf Try.f5 33) 2 = some 108 := by kernel_rfl
theorem p5_33_3 : pj (regOf Try.f5 33) 3 = some (some 109, Op.move (Operand.tmp 3), 34, some (2, false)) := by kernel_rfl
theorem p5_33_5 : pj (regOf Try.f5 33) 5 = some (some 111, Op.move (Operand.tmp 4), 39, some (2, false)) := by kernel_rfl
theorem p5_33_6 : pj (regOf Try.f5 33) 6 = some (some 112, Op.nilCheck (Operand.tmp 111), 0, some (2, false)) := by kernel_rfl
theorem p5_33_7 : pj (regOf Try.f5 33) 7 = some (some 113, Op.fieldAddr 41 (Operand.tmp 112) 2, 0, some (2, false)) := by kernel_rfl
theorem p5_33_8 : pj (regOf Try.f5 33) 8 = some (some 114, Op.load 3 (Operand.tmp 113), 3, some (2, false)) := by kernel_rfl
theorem p5_33_4 : pj (regOf Try.f5 33) 4 = some (some 110, Op.call { callee := Callee.value (Operand.func 23), args := #[Operand.tmp 109], argTypes := #[34] }, 3, some (2, false)) := by kernel_rfl
theorem cl23 : callable Try.f23 = true := by kernel_rfl
theorem p5_33_9 : pj (regOf Try.f5 33) 9 = some (some 115, Op.binOp BinOp.neq 3 (Operand.tmp 110) (Operand.tmp 114) 3, 4, some (2, false)) := by kernel_rfl
theorem p5_33_10 : pj (regOf Try.f5 33) 10 = some (some 116, Op.pick (Operand.tmp 108) (Operand.const (Value.bool true)) (Operand.tmp 115), 4, none) := by kernel_rfl
theorem p5_33_11 : pj (regOf Try.f5 33) 11 = some (some 117, Op.move (Operand.tmp 116), 4, none) := by kernel_rfl
theorem g5_33_11 : dstOf (regOf Try.f5 33) 11 = some 117 := by kernel_rfl
theorem p5_33_12 : pj (regOf Try.f5 33) 12 = some (some 118, Op.move (Operand.tmp 3), 34, some (11, false)) := by kernel_rfl
theorem p5_33_14 : pj (regOf Try.f5 33) 14 = some (some 120, Op.move (Operand.tmp 13), 3, some (11, false)) := by kernel_rfl
theorem p5_33_13 : pj (regOf Try.f5 33) 13 = some (some 119, Op.call { callee := Callee.value (Operand.func 24), args := #[Operand.tmp 118], argTypes := #[34] }, 3, some (11, false)) := by kernel_rfl
theorem cl24 : callable Try.f24 = true := by kernel_rfl
theorem p5_33_15 : pj (regOf Try.f5 33) 15 = some (some 121, Op.binOp BinOp.neq 3 (Operand.tmp 119) (Operand.tmp 120) 3, 4, some (11, false)) := by kernel_rfl
theorem p5_33_16 : pj (regOf Try.f5 33) 16 = some (some 122, Op.pick (Operand.tmp 117) (Operand.const (Value.bool true)) (Operand.tmp 121), 4, none) := by kernel_rfl
theorem p5_33_17 : pj (regOf Try.f5 33) 17 = some (some 123, Op.move (Operand.tmp 122), 4, none) := by kernel_rfl
theorem g5_33_17 : dstOf (regOf Try.f5 33) 17 = some 123 := by kernel_rfl
theorem p5_33_18 : pj (regOf Try.f5 33) 18 = some (some 124, Op.move (Operand.tmp 4), 39, some (17, false)) := by kernel_rfl
theorem p5_33_19 : pj (regOf Try.f5 33) 19 = some (some 125, Op.nilCheck (Operand.tmp 124), 0, some (17, false)) := by kernel_rfl
theorem p5_33_20 : pj (regOf Try.f5 33) 20 = some (some 126, Op.fieldAddr 41 (Operand.tmp 125) 1, 0, some (17, false)) := by kernel_rfl
theorem p5_33_21 : pj (regOf Try.f5 33) 21 = some (some 127, Op.load 4 (Operand.tmp 126), 4, some (17, false)) := by kernel_rfl
theorem p5_33_22 : pj (regOf Try.f5 33) 22 = some (some 128, Op.unOp UnOp.not 4 (Operand.tmp 127), 4, some (17, false)) := by kernel_rfl
theorem p5_33_23 : pj (regOf Try.f5 33) 23 = some (some 129, Op.move (Operand.tmp 128), 4, some (17, false)) := by kernel_rfl
theorem g5_33_23 : dstOf (regOf Try.f5 33) 23 = some 129 := by kernel_rfl
theorem p5_33_24 : pj (regOf Try.f5 33) 24 = some (some 130, Op.move (Operand.tmp 12), 23, some (23, true)) := by kernel_rfl
theorem p5_33_25 : pj (regOf Try.f5 33) 25 = some (some 131, Op.binOp BinOp.neq 23 (Operand.tmp 130) (Operand.const (Value.int IntKind.i64 8)) 23, 4, some (23, true)) := by kernel_rfl
theorem p5_33_26 : pj (regOf Try.f5 33) 26 = some (some 132, Op.pick (Operand.tmp 129) (Operand.tmp 131) (Operand.const (Value.bool false)), 4, some (17, false)) := by kernel_rfl
theorem p5_33_27 : pj (regOf Try.f5 33) 27 = some (some 133, Op.pick (Operand.tmp 123) (Operand.const (Value.bool true)) (Operand.tmp 132), 4, none) := by kernel_rfl
theorem p5_33_28 : pj (regOf Try.f5 33) 28 = some (some 134, Op.move (Operand.tmp 133), 4, none) := by kernel_rfl
theorem g5_33_28 : dstOf (regOf Try.f5 33) 28 = some 134 := by kernel_rfl
theorem p5_33_29 : pj (regOf Try.f5 33) 29 = some (some 135, Op.move (Operand.tmp 4), 39, some (28, false)) := by kernel_rfl
theorem p5_33_30 : pj (regOf Try.f5 33) 30 = some (some 136, Op.nilCheck (Operand.tmp 135), 0, some (28, false)) := by kernel_rfl
theorem p5_33_31 : pj (regOf Try.f5 33) 31 = some (some 137, Op.fieldAddr 41 (Operand.tmp 136) 1, 0, some (28, false)) := by kernel_rfl
theorem p5_33_32 : pj (regOf Try.f5 33) 32 = some (some 138, Op.load 4 (Operand.tmp 137), 4, some (28, false)) := by kernel_rfl
theorem p5_33_33 : pj (regOf Try.f5 33) 33 = some (some 139, Op.move (Operand.tmp 138), 4, some (28, false)) := by kernel_rfl
theorem g5_33_33 : dstOf (regOf Try.f5 33) 33 = some 139 := by kernel_rfl
theorem p5_33_34 : pj (regOf Try.f5 33) 34 = some (some 140, Op.move (Operand.tmp 12), 23, some (33, true)) := by kernel_rfl
theorem p5_33_35 : pj (regOf Try.f5 33) 35 = some (some 141, Op.binOp BinOp.neq 23 (Operand.tmp 140) (Operand.const (Value.int IntKind.i64 0)) 23, 4, some (33, true)) := by kernel_rfl
theorem p5_33_36 : pj (regOf Try.f5 33) 36 = some (some 142, Op.move (Operand.tmp 141), 4, some (33, true)) := by kernel_rfl
theorem g5_33_36 : dstOf (regOf Try.f5 33) 36 = some 142 := by kernel_rfl
theorem p5_33_37 : pj (regOf Try.f5 33) 37 = some (some 143, Op.move (Operand.tmp 11), 22, some (36, false)) := by kernel_rfl
theorem p5_33_38 : pj (regOf Try.f5 33) 38 = some (some 144, Op.move (Operand.tmp 4), 39, some (36, false)) := by kernel_rfl
theorem p5_33_39 : pj (regOf Try.f5 33) 39 = some (some 145, Op.nilCheck (Operand.tmp 144), 0, some (36, false)) := by kernel_rfl
theorem p5_33_40 : pj (regOf Try.f5 33) 40 = some (some 146, Op.fieldAddr 41 (Operand.tmp 145) 0, 0, some (36, false)) := by kernel_rfl
theorem p5_33_41 : pj (regOf Try.f5 33) 41 = some (some 147, Op.load 22 (Operand.tmp 146), 22, some (36, false)) := by kernel_rfl
theorem p5_33_42 : pj (regOf Try.f5 33) 42 = some (some 148, Op.call { callee := Callee.value (Operand.func 25), args := #[Operand.tmp 143, Operand.tmp 147], argTypes := #[22, 22] }, 4, some (36, false)) := by kernel_rfl
theorem cl25 : callable Try.f25 = true := by kernel_rfl
theorem p5_33_43 : pj (regOf Try.f5 33) 43 = some (some 149, Op.unOp UnOp.not 4 (Operand.tmp 148), 4, some (36, false)) := by kernel_rfl
theorem p5_33_44 : pj (regOf Try.f5 33) 44 = some (some 150, Op.pick (Operand.tmp 142) (Operand.const (Value.bool true)) (Operand.tmp 149), 4, some (33, true)) := by kernel_rfl
theorem p5_33_45 : pj (regOf Try.f5 33) 45 = some (some 151, Op.pick (Operand.tmp 139) (Operand.tmp 150) (Operand.const (Value.bool false)), 4, some (28, false)) := by kernel_rfl
theorem p5_33_46 : pj (regOf Try.f5 33) 46 = some (some 152, Op.pick (Operand.tmp 134) (Operand.const (Value.bool true)) (Operand.tmp 151), 4, none) := by kernel_rfl
theorem p5_5_0 : pj (regOf Try.f5 5) 0 = some (some 26, Op.move (Operand.tmp 5), 3, none) := by kernel_rfl
theorem p5_5_1 : pj (regOf Try.f5 5) 1 = some (some 27, Op.binOp BinOp.add 3 (Operand.tmp 26) (Operand.const (Value.int IntKind.i64 1)) 3, 3, none) := by kernel_rfl
theorem p5_5_2 : pj (regOf Try.f5 5) 2 = some (some 5, Op.assign (Operand.tmp 27), 3, none) := by kernel_rfl
theorem p5_17_0 : pj (regOf Try.f5 17) 0 = some (some 57, Op.move (Operand.tmp 8), 23, none) := by kernel_rfl
theorem p5_17_1 : pj (regOf Try.f5 17) 1 = some (some 58, Op.binOp BinOp.eql 23 (Operand.tmp 57) (Operand.const (Value.int IntKind.i64 1)) 23, 4, none) := by kernel_rfl
theorem p5_17_2 : pj (regOf Try.f5 17) 2 = some (some 7, Op.assign (Operand.tmp 58), 4, none) := by kernel_rfl
theorem p5_20_0 : pj (regOf Try.f5 20) 0 = some (some 66, Op.binOp BinOp.eql 44 (Operand.tmp 35) (Operand.const (Value.int IntKind.u64 1)) 44, 4, none) := by kernel_rfl
theorem p5_20_1 : pj (regOf Try.f5 20) 1 = some (some 65, Op.assign (Operand.tmp 66), 4, none) := by kernel_rfl
theorem p5_21_0 : pj (regOf Try.f5 21) 0 = some (some 67, Op.move (Operand.tmp 3), 34, none) := by kernel_rfl
theorem p5_21_1 : pj (regOf Try.f5 21) 1 = some (some 68, Op.call { callee := Callee.value (Operand.func 19), args := #[Operand.tmp 67], argTypes := #[34] }, 0, none) := by kernel_rfl
theorem cl19 : callable Try.f19 = true := by kernel_rfl
theorem p5_22_0 : pj (regOf Try.f5 22) 0 = some (some 69, Op.move (Operand.tmp 4), 39, none) := by kernel_rfl
theorem p5_22_1 : pj (regOf Try.f5 22) 1 = some (some 70, Op.call { callee := Callee.value (Operand.func 18), args := #[Operand.tmp 69, Operand.const (Value.int IntKind.i64 16)], argTypes := #[39, 3] }, 0, none) := by kernel_rfl
theorem p5_23_0 : pj (regOf Try.f5 23) 0 = some (some 72, Op.binOp BinOp.eql 44 (Operand.tmp 35) (Operand.const (Value.int IntKind.u64 2)) 44, 4, none) := by kernel_rfl
theorem p5_23_1 : pj (regOf Try.f5 23) 1 = some (some 71, Op.assign (Operand.tmp 72), 4, none) := by kernel_rfl
theorem p5_24_0 : pj (regOf Try.f5 24) 0 = some (some 73, Op.move (Operand.tmp 3), 34, none) := by kernel_rfl
theorem p5_24_1 : pj (regOf Try.f5 24) 1 = some (some 74, Op.fieldAddr 43 (Operand.tmp 6) 2, 0, none) := by kernel_rfl
theorem p5_24_2 : pj (regOf Try.f5 24) 2 = some (some 75, Op.load 22 (Operand.tmp 74), 22, none) := by kernel_rfl
theorem p5_24_3 : pj (regOf Try.f5 24) 3 = some (some 76, Op.call { callee := Callee.value (Operand.func 20), args := #[Operand.tmp 73, Operand.tmp 75], argTypes := #[34, 22] }, 23, none) := by kernel_rfl
theorem cl20 : callable Try.f20 = true := by kernel_rfl
theorem p5_24_4 : pj (regOf Try.f5 24) 4 = some (some 9, Op.assign (Operand.tmp 76), 23, none) := by kernel_rfl
theorem p5_25_0 : pj (regOf Try.f5 25) 0 = some (some 77, Op.fieldAddr 43 (Operand.tmp 6) 2, 0, none) := by kernel_rfl
theorem p5_25_1 : pj (regOf Try.f5 25) 1 = some (some 78, Op.load 22 (Operand.tmp 77), 22, none) := by kernel_rfl
theorem p5_25_2 : pj (regOf Try.f5 25) 2 = some (some 79, Op.call { callee := Callee.value (Operand.func 14), args := #[Operand.tmp 78], argTypes := #[22] }, 4, none) := by kernel_rfl
theorem cl14 : callable Try.f14 = true := by kernel_rfl
theorem p5_26_0 : pj (regOf Try.f5 26) 0 = some (some 80, Op.move (Operand.tmp 9), 23, none) := by kernel_rfl
theorem p5_26_1 : pj (regOf Try.f5 26) 1 = some (some 81, Op.binOp BinOp.eql 23 (Operand.tmp 80) (Operand.const (Value.int IntKind.i64 0)) 23, 4, none) := by kernel_rfl
theorem p5_26_2 : pj (regOf Try.f5 26) 2 = some (some 7, Op.assign (Operand.tmp 81), 4, none) := by kernel_rfl
theorem p5_27_0 : pj (regOf Try.f5 27) 0 = some (some 82, Op.move (Operand.tmp 4), 39, none) := by kernel_rfl
theorem p5_27_1 : pj (regOf Try.f5 27) 1 = some (some 83, Op.move (Operand.tmp 4), 39, none) := by kernel_rfl
theorem p5_27_2 : pj (regOf Try.f5 27) 2 = some (some 84, Op.fieldAddr 43 (Operand.tmp 6) 2, 0, none) := by kernel_rfl
theorem p5_27_3 : pj (regOf Try.f5 27) 3 = some (some 85, Op.load 22 (Operand.tmp 84), 22, none) := by kernel_rfl
theorem p5_27_4 : pj (regOf Try.f5 27) 4 = some (some 86, Op.nilCheck (Operand.tmp 82), 0, none) := by kernel_rfl
theorem p5_27_5 : pj (regOf Try.f5 27) 5 = some (some 87, Op.fieldAddr 41 (Operand.tmp 86) 0, 0, none) := by kernel_rfl
theorem p5_27_6 : pj (regOf Try.f5 27) 6 = some (none, Op.store 22 (Operand.tmp 87) (Operand.tmp 85), 0, none) := by kernel_rfl
theorem p5_27_7 : pj (regOf Try.f5 27) 7 = some (some 88, Op.nilCheck (Operand.tmp 83), 0, none) := by kernel_rfl
theorem p5_27_8 : pj (regOf Try.f5 27) 8 = some (some 89, Op.fieldAddr 41 (Operand.tmp 88) 1, 0, none) := by kernel_rfl
theorem p5_27_9 : pj (regOf Try.f5 27) 9 = some (none, Op.store 4 (Operand.tmp 89) (Operand.const (Value.bool true)), 0, none) := by kernel_rfl
theorem p5_28_0 : pj (regOf Try.f5 28) 0 = some (some 90, Op.move (Operand.tmp 9), 23, none) := by kernel_rfl
theorem p5_28_1 : pj (regOf Try.f5 28) 1 = some (some 91, Op.binOp BinOp.eql 23 (Operand.tmp 90) (Operand.const (Value.int IntKind.i64 1)) 23, 4, none) := by kernel_rfl
theorem p5_28_2 : pj (regOf Try.f5 28) 2 = some (some 7, Op.assign (Operand.tmp 91), 4, none) := by kernel_rfl
theorem p5_9_0 : pj (regOf Try.f5 9) 0 = some (some 36, Op.move (Operand.tmp 3), 34, none) := by kernel_rfl
theorem p5_9_1 : pj (regOf Try.f5 9) 1 = some (some 37, Op.call { callee := Callee.value (Operand.func 21), args := #[Operand.tmp 36], argTypes := #[34] }, 34, none) := by kernel_rfl
theorem cl21 : callable Try.f21 = true := by kernel_rfl
theorem p5_9_2 : pj (regOf Try.f5 9) 2 = some (some 10, Op.assign (Operand.tmp 37), 34, none) := by kernel_rfl
theorem p5_10_0 : pj (regOf Try.f5 10) 0 = some (some 38, Op.move (Operand.tmp 10), 34, none) := by kernel_rfl
theorem p5_10_1 : pj (regOf Try.f5 10) 1 = some (some 39, Op.binOp BinOp.eql 34 (Operand.tmp 38) (Operand.const (Value.pointer none)) 34, 4, none) := by kernel_rfl
theorem tP34 : Try.prog.underlying 34 = some (.pointer (Try.prog.pointee 34)) := by kernel_rfl
theorem p5_12_0 : pj (regOf Try.f5 12) 0 = some (some 40, Op.move (Operand.tmp 3), 34, none) := by kernel_rfl
theorem p5_12_1 : pj (regOf Try.f5 12) 1 = some (some 41, Op.call { callee := Callee.value (Operand.func 19), args := #[Operand.tmp 40], argTypes := #[34] }, 0, none) := by kernel_rfl
theorem p5_13_0 : pj (regOf Try.f5 13) 0 = some (some 42, Op.move (Operand.tmp 10), 34, none) := by kernel_rfl
theorem p5_13_1 : pj (regOf Try.f5 13) 1 = some (some 3, Op.assign (Operand.tmp 42), 34, none) := by kernel_rfl
theorem p5_35_0 : pj (regOf Try.f5 35) 0 = some (some 153, Op.call { callee := Callee.value (Operand.func 12), args := #[], argTypes := #[] }, 4, none) := by kernel_rfl
theorem cl12 : callable Try.f12 = true := by kernel_rfl
theorem p5_35_1 : pj (regOf Try.f5 35) 1 = some (some 2, Op.assign (Operand.tmp 153), 4, none) := by kernel_rfl
set_option maxHeartbeats 4000000 in
theorem walk (a0 : Option Addr) (cap0 : Nat) (z0 : List (Int × Int × Nat)) (w : World) (w0 : Kd.C (Kd.pair (Kd.int .i64) (Kd.pair (Kd.int .i64) Kf)) w a0 z0.length z0) (m0 : z0.length ≤ cap0) (o0 : (z0.length ≤ maxLen ∧ ∀ x0 ∈ z0, ((Lit.int .i64 x0.1).wf = true ∧ ((Lit.int .i64 x0.2.1).wf = true ∧ ((Lit.float .f64 x0.2.2).wf = true))))) (y0 : z0.length * Try.prog.bytesOf 43 ≤ 140737488351232) : Calls Try.prog 5 #[.slice a0 z0.length cap0] w fun e w' => e = .returned (.bool true) ∧ Below w.heap.size w w' := by
  have K_0 := Kp.refl w (fun _ => False)
  have F_z : ∀ W', Kp w W' (fun _ => False) → Kd.C (Kd.pair (Kd.int .i64) (Kd.pair (Kd.int .i64) Kf)) W' a0 z0.length z0 := fun W' hk => Kd.C_below w0 (hk.to (Nat.le_refl _) (fun _ h => h.elim))
  refine enter (args := [Value.slice a0 z0.length cap0]) (n := 154) Try.func5 body5 rfl rfl rfl ?_
  intro a hE
  refine c_reg R5_0_l ?_
  refine p_cons (s_still p5_0_0 hE wn_none rfl (st_assign rfl) ?_)
  clear hE a; intro a hE
  refine p_nil ?_
  refine x_norm ?_
  refine c_reg R5_1_l ?_
  refine p_cons (s_still p5_1_0 hE wn_none rfl (st_build (xs := []) (vs := []) (cs := #[Value.float .f64 0, Value.bool false, Value.int .i64 0]) rfl (by kernel_rfl)) ?_)
  clear hE a; intro a hE
  refine p_cons (s_box p5_1_1 hE wn_none rfl rfl ?_)
  clear hE a; intro g1 w2 z3 B_g1 hk a hE
  replace B_g1 : w2.heap[g1]? = some (.cells #[Value.float .f64 0, Value.bool false, Value.int .i64 0] 38 (0, 0)) := B_g1
  have z_0_g1 := Nat.le_trans K_0.kept.1 z3
  replace K_0 := K_0.then_ hk (fun _ h => h.elim)
  clear hk
  refine p_cons (s_still p5_1_2 hE wn_none rfl (st_assign rfl) ?_)
  clear hE a; intro a hE
  refine p_nil ?_
  refine x_norm ?_
  refine c_reg R5_2_l ?_
  refine p_cons (s_still p5_2_0 hE wn_none rfl (st_build (xs := []) (vs := []) (cs := #[Value.float .f64 0, Value.bool false, Value.int .i64 0]) rfl (by kernel_rfl)) ?_)
  clear hE a; intro a hE
  refine p_cons (s_box p5_2_1 hE wn_none rfl rfl ?_)
  clear hE a; intro g4 w5 z6 B_g4 hk a hE
  replace B_g4 : w5.heap[g4]? = some (.cells #[Value.float .f64 0, Value.bool false, Value.int .i64 0] 41 (0, 0)) := B_g4
  have n_g1_g4 : g1 ≠ g4 := ne_new B_g1 z6
  have z_0_g4 := Nat.le_trans K_0.kept.1 z6
  replace B_g1 := kp_blk B_g1 hk (fun h => h)
  replace K_0 := K_0.then_ hk (fun _ h => h.elim)
  clear hk
  refine p_cons (s_still p5_2_2 hE wn_none rfl (st_assign rfl) ?_)
  clear hE a; intro a hE
  refine p_nil ?_
  refine x_norm ?_
  refine wp_seq ?_
  refine c_reg R5_3_l ?_
  refine p_cons (s_still p5_3_0 hE wn_none rfl (st_assign rfl) ?_)
  clear hE a; intro a hE
  refine p_nil ?_
  refine x_norm ?_
  refine wp_block ?_
  refine c_loop (α := Nat) (fun k a W => ∃ (gx : Nat), ∃ (m : Nat), ∃ (is : Bool), ∃ (s : Int), En 154 a [(0, Value.slice a0 z0.length cap0), (4, Value.pointer (some ⟨g4, 0, none⟩)), (3, Value.pointer (some ⟨gx, 0, none⟩)), (5, Value.int .i64 (k : Int))] ∧ k ≤ z0.length ∧ (is = true → right m) ∧ (0 ≤ s ∧ s ≤ 1099511627776) ∧ W.heap[g4]? = some (.cells #[Value.float .f64 m, Value.bool is, Value.int .i64 s] 41 (0, 0)) ∧ W.heap[gx]? = some (.cells #[Value.float .f64 m, Value.bool is, Value.int .i64 s] 38 (0, 0)) ∧ w.heap.size ≤ gx ∧ g4 ≠ gx ∧ Kp w W (fun _ => False)) (fun k => z0.length - k) (0) ?_ ?_
  ·
    exact ⟨g1, 0, false, 0, En.sub hE ⟨rfl, rfl, rfl, rfl, trivial⟩, Nat.zero_le _, (fun h => by cases h), ⟨by decide, by decide⟩, B_g4, B_g1, z_0_g1, (Ne.symm n_g1_g4), K_0⟩
  ·
    clear hE a
    rintro k a w7 ⟨gx, m, is, s, hE, hk9, hm, hs, B_g4, B_gx, z_0_gx, n_g4_gx, K_0⟩
    refine wp_seq ?_
    rcases Decidable.em ((k : Int) < (z0.length : Int)) with hK1 | hK1
    ·
      rcases Decidable.em ((k : Int) < 60) with hK2 | hK2
      ·
        refine c_reg R5_4_l ?_
        refine p_cons (s_still p5_4_0 hE wn_none rfl (st_move rfl) ?_)
        clear hE a; intro a hE
        refine p_cons (s_still p5_4_1 hE wn_none rfl (st_move rfl) ?_)
        clear hE a; intro a hE
        refine p_cons (s_still p5_4_2 hE wn_none rfl (st_len Try.underlying33 rfl) ?_)
        clear hE a; intro a hE
        refine p_cons (s_still p5_4_3 hE wn_none rfl (st_lss (b := true) rfl rfl (decide_eq_true hK1)) ?_)
        clear hE a; intro a hE
        refine p_cons (s_still p5_4_4 hE wn_none rfl (st_move rfl) ?_)
        clear hE a; intro a hE
        refine p_cons (s_still p5_4_5 hE (wn_some g5_4_4 rfl rfl) rfl (st_move rfl) ?_)
        clear hE a; intro a hE
        refine p_cons (s_still p5_4_6 hE (wn_some g5_4_4 rfl rfl) rfl (st_lss (b := true) rfl rfl (decide_eq_true hK2)) ?_)
        clear hE a; intro a hE
        refine p_cons (s_still p5_4_7 hE wn_none rfl (st_pick rfl rfl) ?_)
        clear hE a; intro a hE
        refine p_nil ?_
        refine x_norm ?_
        refine c_cond (t := true) hE rfl ?_
        refine wp_skip ?_
        refine x_norm ?_
        refine wp_seq ?_
        refine wp_block ?_
        refine c_reg R5_6_l ?_
        refine p_cons (s_still p5_6_0 hE wn_none rfl (st_move rfl) ?_)
        clear hE a; intro a hE
        refine p_cons (s_still p5_6_1 hE wn_none rfl (st_move rfl) ?_)
        clear hE a; intro a hE
        refine p_cons (s_still p5_6_2 hE wn_none rfl (st_indexAddrR (i := k) (s := 3) Try.underlying33 tS43 (C_elem (i := k) (F_z _ K_0) (0, 0, 0) (by omega)).1 rfl rfl (by omega)) ?_)
        clear hE a; intro a hE
        obtain ⟨_, c9, hK9, hc9⟩ := C_elem (i := k) (F_z _ K_0) (0, 0, 0) (show k < z0.length by omega)
        obtain rfl := act_open hK9
        have hwf := o0.2 _ (getD_mem (show k < z0.length by omega) (0, 0, 0))
        generalize z0.getD k (0, 0, 0) = q at hc9 hwf
        obtain ⟨kd, nn, fx⟩ := q
        obtain ⟨hwf1, hwf2, hwf3⟩ := hwf
        replace hwf1 := wf_bd hwf1
        replace hwf2 := wf_bd hwf2
        replace hwf3 := wf_lt hwf3
        simp only at hc9 hwf1 hwf2 hwf3
        refine p_cons (s_still p5_6_3 hE wn_none rfl (st_loadR (off := k * 3) (j := 0) (k := 3) (vs := [Value.int .i64 kd, Value.int .i64 nn, Value.float .f64 fx]) tA43 tS43 hc9 rfl rfl (by omega) rfl) ?_)
        clear hE a; intro a hE
        refine p_cons (s_alloc p5_6_4 hE wn_none rfl tZ43 ?_)
        clear hE a; intro g8 w9 z10 B_g8 hk a hE
        replace B_g8 : w9.heap[g8]? = some (.cells #[Value.int .i64 0, Value.int .i64 0, Value.float .f64 0] 43 (0, 0)) := B_g8
        have n_g4_g8 : g4 ≠ g8 := ne_new B_g4 z10
        have n_gx_g8 : gx ≠ g8 := ne_new B_gx z10
        have z_0_g8 := Nat.le_trans K_0.kept.1 z10
        replace B_g4 := kp_blk B_g4 hk (fun h => h)
        replace B_gx := kp_blk B_gx hk (fun h => h)
        replace K_0 := K_0.then_ hk (fun _ h => h.elim)
        clear hk
        refine p_cons (s_store (off := 0) (k := 3) (cs' := #[Value.int .i64 kd, Value.int .i64 nn, Value.float .f64 fx]) p5_6_5 hE wn_none tS43 rfl rfl rfl rfl B_g8 (Nat.le_of_ble_eq_true rfl) rfl ?_)
        intro w11 B_g8' hk
        replace B_g4 := kp_blk B_g4 hk n_g4_g8
        replace B_gx := kp_blk B_gx hk n_gx_g8
        replace K_0 := K_0.then_ hk (fun k h => by rw [show k = g8 from h]; exact Or.inr z_0_g8)
        replace B_g8 := B_g8'
        clear hk
        refine p_nil ?_
        refine x_norm ?_
        refine c_reg R5_7_l ?_
        refine p_cons (s_still p5_7_0 hE wn_none rfl (st_assign rfl) ?_)
        clear hE a; intro a hE
        refine p_nil ?_
        refine x_norm ?_
        refine wp_seq ?_
        refine c_reg R5_8_l ?_
        refine p_cons (s_still p5_8_0 hE wn_none rfl (st_fieldAddr Try.underlying43 rfl tS3 rfl rfl) ?_)
        clear hE a; intro a hE
        refine p_cons (s_still p5_8_1 hE wn_none rfl (st_load1 tA3 rfl ((blk_cell B_g8 0).trans rfl)) ?_)
        clear hE a; intro a hE
        refine p_cons (s_still p5_8_2 hE wn_none rfl (st_conv (z := (kd % 18446744073709551616)) (by kernel_rfl) Try.underlying44 rfl (IntKind.wrap_u64 _)) ?_)
        clear hE a; intro a hE
        refine p_cons (s_still p5_8_3 hE wn_none rfl (st_rem (z := (kd % 18446744073709551616) % 4) rfl rfl (by decide) (Int.tmod_eq_emod_of_nonneg (by omega))) ?_)
        clear hE a; intro a hE
        refine p_nil ?_
        refine x_norm ?_
        refine wp_block ?_
        refine c_reg R5_14_l ?_
        rcases Decidable.em (((kd % 18446744073709551616) % 4) = 0) with hc12 | hc12
        ·
          refine p_cons (s_still (v := Value.bool true) p5_14_0 hE wn_none rfl (st_eql rfl rfl (decide_eq_true hc12)) ?_)
          clear hE a; intro a hE
          refine p_cons (s_still p5_14_1 hE wn_none rfl (st_assign rfl) ?_)
          clear hE a; intro a hE
          refine p_nil ?_
          refine x_norm ?_
          refine c_cond (t := true) hE rfl ?_
          rcases Decidable.em (1 ≤ nn ∧ nn ≤ 16) with hNN | hNN
          ·
            obtain ⟨nn, rfl⟩ : ∃ q : Nat, nn = (q : Int) := ⟨nn.toNat, by omega⟩
            have hmr := moveF_right (n := nn) hm (by omega) (by omega)
            refine c_reg R5_15_l ?_
            refine p_cons (s_still p5_15_0 hE wn_none rfl (st_move rfl) ?_)
            clear hE a; intro a hE
            refine p_cons (s_still p5_15_1 hE wn_none rfl (st_fieldAddr Try.underlying43 rfl tS3 rfl rfl) ?_)
            clear hE a; intro a hE
            refine p_cons (s_still p5_15_2 hE wn_none rfl (st_load1 tA3 rfl ((blk_cell B_g8 1).trans rfl)) ?_)
            clear hE a; intro a hE
            refine p_cons (s_call (xs := [Operand.tmp 45, Operand.tmp 47]) (args := [Value.pointer (some ⟨gx, 0, none⟩), Value.int .i64 (nn : Int)]) p5_15_3 hE wn_none rfl rfl Try.func17 cl17 (Sample_ok gx m nn is s hm (by omega) (by omega) hs _ B_gx) ?_)
            rintro e w13 ⟨rfl, B_gx', hk⟩
            replace B_g4 := kp_blk B_g4 hk n_g4_gx
            replace B_g8 := kp_blk B_g8 hk (Ne.symm n_gx_g8)
            replace K_0 := K_0.then_ hk (fun k h => by rw [show k = gx from h]; exact Or.inr z_0_gx)
            replace B_gx : w13.heap[gx]? = some (.cells #[Value.float .f64 (moveF is m nn), Value.bool true, Value.int .i64 (senF s (nn : Int))] 38 (0, 0)) := B_gx'
            clear B_gx'
            refine ⟨_, rfl, ?_⟩
            clear hE a; intro a hE
            refine p_cons (s_still p5_15_4 hE wn_none rfl (st_assign rfl) ?_)
            clear hE a; intro a hE
            refine p_nil ?_
            refine x_norm ?_
            refine c_reg R5_16_l ?_
            refine p_cons (s_still p5_16_0 hE wn_none rfl (st_fieldAddr Try.underlying43 rfl tS3 rfl rfl) ?_)
            clear hE a; intro a hE
            refine p_cons (s_still p5_16_1 hE wn_none rfl (st_load1 tA3 rfl ((blk_cell B_g8 1).trans rfl)) ?_)
            clear hE a; intro a hE
            refine p_cons (s_still p5_16_2 hE wn_none rfl (st_lss (b := false) rfl rfl (decide_eq_false (by omega))) ?_)
            clear hE a; intro a hE
            refine p_cons (s_still p5_16_3 hE wn_none rfl (st_move rfl) ?_)
            clear hE a; intro a hE
            refine p_cons (s_still p5_16_4 hE (wn_some g5_16_3 rfl rfl) rfl (st_fieldAddr Try.underlying43 rfl tS3 rfl rfl) ?_)
            clear hE a; intro a hE
            refine p_cons (s_still p5_16_5 hE (wn_some g5_16_3 rfl rfl) rfl (st_load1 tA3 rfl ((blk_cell B_g8 1).trans rfl)) ?_)
            clear hE a; intro a hE
            refine p_cons (s_still p5_16_6 hE (wn_some g5_16_3 rfl rfl) rfl (st_gtr (b := false) rfl rfl (decide_eq_false (by omega))) ?_)
            clear hE a; intro a hE
            refine p_cons (s_still p5_16_7 hE wn_none rfl (st_pick rfl rfl) ?_)
            clear hE a; intro a hE
            refine p_nil ?_
            refine x_norm ?_
            refine c_cond (t := false) hE rfl ?_
            refine c_reg R5_18_l ?_
            refine p_cons (s_still p5_18_0 hE wn_none rfl (st_move rfl) ?_)
            clear hE a; intro a hE
            refine p_cons (s_still p5_18_1 hE wn_none rfl (st_eql (b := true) rfl rfl (by decide)) ?_)
            clear hE a; intro a hE
            refine p_cons (s_still p5_18_2 hE wn_none rfl (st_assign rfl) ?_)
            clear hE a; intro a hE
            refine p_nil ?_
            refine x_norm ?_
            refine c_regL R5_19_l ?_
            refine p_cons (s_still p5_19_0 hE wn_none rfl (st_move rfl) ?_)
            clear hE a; intro a hE
            refine p_cons (s_still p5_19_1 hE wn_none rfl (st_fieldAddr Try.underlying43 rfl tS3 rfl rfl) ?_)
            clear hE a; intro a hE
            refine p_cons (s_still p5_19_2 hE wn_none rfl (st_load1 tA3 rfl ((blk_cell B_g8 1).trans rfl)) ?_)
            clear hE a; intro a hE
            refine p_cons (s_call (xs := [Operand.tmp 61, Operand.tmp 63]) (args := [Value.pointer (some ⟨g4, 0, none⟩), Value.int .i64 (nn : Int)]) p5_19_3 hE wn_none rfl rfl Try.func18 cl18 (rsample g4 m nn is s hm (by omega) (by omega) hs _ B_g4) ?_)
            rintro e w14 ⟨rfl, B_g4', hk⟩
            replace B_gx := kp_blk B_gx hk (Ne.symm n_g4_gx)
            replace B_g8 := kp_blk B_g8 hk (Ne.symm n_g4_g8)
            replace K_0 := K_0.then_ hk (fun k h => by rw [show k = g4 from h]; exact Or.inr z_0_g4)
            replace B_g4 : w14.heap[g4]? = some (.cells #[Value.float .f64 (moveF is m nn), Value.bool true, Value.int .i64 (senF s (nn : Int))] 41 (0, 0)) := B_g4'
            clear B_g4'
            refine ⟨_, rfl, ?_⟩
            clear hE a; intro a hE
            refine p_nil ?_
            refine x_normB ?_
            refine x_norm ?_
            have hmR : right (moveF is m nn) := hmr
            refine c_reg R5_29_l ?_
            refine p_cons (s_still p5_29_0 hE wn_none rfl (st_move rfl) ?_)
            clear hE a; intro a hE
            refine p_cons (s_call (xs := [Operand.tmp 93]) (args := [Value.pointer (some ⟨gx, 0, none⟩)]) p5_29_1 hE wn_none rfl rfl Try.func22 cl22 (Mean_true gx (moveF is m nn) (senF s (nn : Int)) _ B_gx) ?_)
            rintro e w15 ⟨rfl, hk⟩
            replace B_g4 := kp_blk B_g4 hk (fun h => h)
            replace B_gx := kp_blk B_gx hk (fun h => h)
            replace B_g8 := kp_blk B_g8 hk (fun h => h)
            replace K_0 := K_0.then_ hk (fun _ h => h.elim)
            refine ⟨_, rfl, ?_⟩
            clear hE a; intro a hE
            refine p_cons (s_still p5_29_2 hE wn_none rfl (st_move rfl) ?_)
            clear hE a; intro a hE
            refine p_cons (s_still p5_29_3 hE wn_none rfl (st_extract rfl rfl) ?_)
            clear hE a; intro a hE
            refine p_cons (s_still p5_29_4 hE wn_none rfl (st_extract rfl rfl) ?_)
            clear hE a; intro a hE
            refine p_cons (s_still p5_29_5 hE wn_none rfl (st_assign rfl) ?_)
            clear hE a; intro a hE
            refine p_cons (s_still p5_29_6 hE wn_none rfl (st_assign rfl) ?_)
            clear hE a; intro a hE
            refine p_nil ?_
            refine x_norm ?_
            refine c_reg R5_30_l ?_
            refine p_cons (s_still p5_30_0 hE wn_none rfl (st_assign rfl) ?_)
            clear hE a; intro a hE
            refine p_nil ?_
            refine x_norm ?_
            refine wp_seq ?_
            refine c_reg R5_31_l ?_
            refine p_cons (s_still p5_31_0 hE wn_none rfl (st_move rfl) ?_)
            clear hE a; intro a hE
            refine p_cons (s_still p5_31_1 hE wn_none rfl (st_nil rfl) ?_)
            clear hE a; intro a hE
            refine p_cons (s_still p5_31_2 hE wn_none rfl (st_fieldAddr Try.underlying41 rfl tS4 rfl rfl) ?_)
            clear hE a; intro a hE
            refine p_cons (s_still p5_31_3 hE wn_none rfl (st_load1 tA4 rfl ((blk_cell B_g4 1).trans rfl)) ?_)
            clear hE a; intro a hE
            refine p_nil ?_
            refine x_norm ?_
            refine c_cond (t := true) hE rfl ?_
            refine c_regL R5_32_l ?_
            refine p_cons (s_still p5_32_0 hE wn_none rfl (st_move rfl) ?_)
            clear hE a; intro a hE
            refine p_cons (s_still p5_32_1 hE wn_none rfl (st_nil rfl) ?_)
            clear hE a; intro a hE
            refine p_cons (s_still p5_32_2 hE wn_none rfl (st_fieldAddr Try.underlying41 rfl tS22 rfl rfl) ?_)
            clear hE a; intro a hE
            refine p_cons (s_still p5_32_3 hE wn_none rfl (st_load1 tA22 rfl ((blk_cell B_g4 0).trans rfl)) ?_)
            clear hE a; intro a hE
            refine p_cons (s_call (xs := [Operand.tmp 104]) (args := [Value.float .f64 (moveF is m nn)]) p5_32_4 hE wn_none rfl rfl Try.func15 cl15 (rcost_any (moveF is m nn) hmR _ rfl _) ?_)
            rintro e w16 ⟨rfl, hk⟩
            replace B_g4 := kp_blk B_g4 hk (fun h => h)
            replace B_gx := kp_blk B_gx hk (fun h => h)
            replace B_g8 := kp_blk B_g8 hk (fun h => h)
            replace K_0 := K_0.then_ hk (fun _ h => h.elim)
            refine ⟨_, rfl, ?_⟩
            clear hE a; intro a hE
            refine p_cons (s_still p5_32_5 hE wn_none rfl (st_assign rfl) ?_)
            clear hE a; intro a hE
            refine p_nil ?_
            refine x_norm ?_
            refine c_drawS (S := fun W => W.heap[g4]? = some (.cells #[Value.float .f64 (moveF is m nn), Value.bool true, Value.int .i64 (senF s (nn : Int))] 41 (0, 0)) ∧ W.heap[gx]? = some (.cells #[Value.float .f64 (moveF is m nn), Value.bool true, Value.int .i64 (senF s (nn : Int))] 38 (0, 0)) ∧ W.heap[g8]? = some (.cells #[Value.int .i64 kd, Value.int .i64 (nn : Int), Value.float .f64 fx] 43 (0, 0)) ∧ True) rfl rfl (listed := #[false, false, false, false, false, false, false, false, false, false, false, false, false, false, false, false, false, false, false, false, false, false, false, false, false, false, false, false, false, false, false, false, false, false, false, false, false, false, false, false, false, false, false, false, false, false, false]) rfl ?_
            intro w17 hh hk
            replace B_g4 := kp_blk B_g4 hk (fun h => h)
            replace B_gx := kp_blk B_gx hk (fun h => h)
            replace B_g8 := kp_blk B_g8 hk (fun h => h)
            replace K_0 := K_0.then_ hk (fun _ h => h.elim)
            clear hh hk
            refine d_take (v := Value.bool true) p5_33_0 ns5_33 (by kernel_rfl) (by kernel_rfl) (fun _ _ _ h => h) hE wn_none rfl ⟨B_g4, B_gx, B_g8, trivial⟩ (fun W hS => (st_move rfl)) rfl ?_
            clear hE a; intro a hE
            refine d_take (v := Value.bool false) p5_33_1 ns5_33 (by kernel_rfl) (by kernel_rfl) (fun _ _ _ h => h) hE wn_none rfl ⟨B_g4, B_gx, B_g8, trivial⟩ (fun W hS => (st_not rfl rfl)) rfl ?_
            clear hE a; intro a hE
            refine d_take (v := Value.bool false) p5_33_2 ns5_33 (by kernel_rfl) (by kernel_rfl) (fun _ _ _ h => h) hE wn_none rfl ⟨B_g4, B_gx, B_g8, trivial⟩ (fun W hS => (st_move rfl)) rfl ?_
            clear hE a; intro a hE
            refine d_take (v := Value.pointer (some ⟨gx, 0, none⟩)) p5_33_3 ns5_33 (by kernel_rfl) (by kernel_rfl) (fun _ _ _ h => h) hE (wn_some g5_33_2 rfl rfl) rfl ⟨B_g4, B_gx, B_g8, trivial⟩ (fun W hS => (st_move rfl)) rfl ?_
            clear hE a; intro a hE
            refine d_take (v := Value.pointer (some ⟨g4, 0, none⟩)) p5_33_5 ns5_33 (by kernel_rfl) (by kernel_rfl) (fun _ _ _ h => h) hE (wn_some g5_33_2 rfl rfl) rfl ⟨B_g4, B_gx, B_g8, trivial⟩ (fun W hS => (st_move rfl)) rfl ?_
            clear hE a; intro a hE
            refine d_take (v := Value.pointer (some ⟨g4, 0, none⟩)) p5_33_6 ns5_33 (by kernel_rfl) (by kernel_rfl) (fun _ _ _ h => h) hE (wn_some g5_33_2 rfl rfl) rfl ⟨B_g4, B_gx, B_g8, trivial⟩ (fun W hS => (st_nil rfl)) rfl ?_
            clear hE a; intro a hE
            refine d_take (v := Value.pointer (some ⟨g4, 2, none⟩)) p5_33_7 ns5_33 (by kernel_rfl) (by kernel_rfl) (fun _ _ _ h => h) hE (wn_some g5_33_2 rfl rfl) rfl ⟨B_g4, B_gx, B_g8, trivial⟩ (fun W hS => (st_fieldAddr Try.underlying41 rfl tS3 rfl rfl)) rfl ?_
            clear hE a; intro a hE
            refine d_take (v := Value.int .i64 (senF s (nn : Int))) p5_33_8 ns5_33 (by kernel_rfl) (by kernel_rfl) (fun _ _ _ h => h) hE (wn_some g5_33_2 rfl rfl) rfl ⟨B_g4, B_gx, B_g8, trivial⟩ (fun W hS => (st_load1 tA3 rfl ((blk_cell hS.1 2).trans rfl))) rfl ?_
            clear hE a; intro a hE
            refine d_one (by kernel_rfl) rfl (s_call (xs := [Operand.tmp 109]) (args := [Value.pointer (some ⟨gx, 0, none⟩)]) p5_33_4 hE (wn_some g5_33_2 rfl rfl) rfl rfl Try.func23 cl23 (Sent_any gx (moveF is m nn) true (senF s (nn : Int)) _ B_gx) ?_)
            rintro e w18 ⟨rfl, hk⟩
            replace B_g4 := kp_blk B_g4 hk (fun h => h)
            replace B_gx := kp_blk B_gx hk (fun h => h)
            replace B_g8 := kp_blk B_g8 hk (fun h => h)
            replace K_0 := K_0.then_ hk (fun _ h => h.elim)
            refine ⟨_, rfl, ?_⟩
            clear hE a; intro a hE
            refine ⟨⟨B_g4, B_gx, B_g8, trivial⟩, ?_⟩
            refine d_take (v := Value.bool false) p5_33_9 ns5_33 (by kernel_rfl) (by kernel_rfl) (fun _ _ _ h => h) hE (wn_some g5_33_2 rfl rfl) rfl ⟨B_g4, B_gx, B_g8, trivial⟩ (fun W hS => (st_neq (b := false) rfl rfl (by simp))) rfl ?_
            clear hE a; intro a hE
            refine d_take (v := Value.bool false) p5_33_10 ns5_33 (by kernel_rfl) (by kernel_rfl) (fun _ _ _ h => h) hE wn_none rfl ⟨B_g4, B_gx, B_g8, trivial⟩ (fun W hS => (st_pick rfl rfl)) rfl ?_
            clear hE a; intro a hE
            refine d_take (v := Value.bool false) p5_33_11 ns5_33 (by kernel_rfl) (by kernel_rfl) (fun _ _ _ h => h) hE wn_none rfl ⟨B_g4, B_gx, B_g8, trivial⟩ (fun W hS => (st_move rfl)) rfl ?_
            clear hE a; intro a hE
            refine d_take (v := Value.pointer (some ⟨gx, 0, none⟩)) p5_33_12 ns5_33 (by kernel_rfl) (by kernel_rfl) (fun _ _ _ h => h) hE (wn_some g5_33_11 rfl rfl) rfl ⟨B_g4, B_gx, B_g8, trivial⟩ (fun W hS => (st_move rfl)) rfl ?_
            clear hE a; intro a hE
            refine d_take (v := Value.int .i64 (costV (moveF is m nn))) p5_33_14 ns5_33 (by kernel_rfl) (by kernel_rfl) (fun _ _ _ h => h) hE (wn_some g5_33_11 rfl rfl) rfl ⟨B_g4, B_gx, B_g8, trivial⟩ (fun W hS => (st_move rfl)) rfl ?_
            clear hE a; intro a hE
            refine d_one (by kernel_rfl) rfl (s_call (xs := [Operand.tmp 118]) (args := [Value.pointer (some ⟨gx, 0, none⟩)]) p5_33_13 hE (wn_some g5_33_11 rfl rfl) rfl rfl Try.func24 cl24 (LCost_true gx (moveF is m nn) (senF s (nn : Int)) hmR _ rfl _ B_gx) ?_)
            rintro e w19 ⟨rfl, hk⟩
            replace B_g4 := kp_blk B_g4 hk (fun h => h)
            replace B_gx := kp_blk B_gx hk (fun h => h)
            replace B_g8 := kp_blk B_g8 hk (fun h => h)
            replace K_0 := K_0.then_ hk (fun _ h => h.elim)
            refine ⟨_, rfl, ?_⟩
            clear hE a; intro a hE
            refine ⟨⟨B_g4, B_gx, B_g8, trivial⟩, ?_⟩
            refine d_take (v := Value.bool false) p5_33_15 ns5_33 (by kernel_rfl) (by kernel_rfl) (fun _ _ _ h => h) hE (wn_some g5_33_11 rfl rfl) rfl ⟨B_g4, B_gx, B_g8, trivial⟩ (fun W hS => (st_neq (b := false) rfl rfl (by simp))) rfl ?_
            clear hE a; intro a hE
            refine d_take (v := Value.bool false) p5_33_16 ns5_33 (by kernel_rfl) (by kernel_rfl) (fun _ _ _ h => h) hE wn_none rfl ⟨B_g4, B_gx, B_g8, trivial⟩ (fun W hS => (st_pick rfl rfl)) rfl ?_
            clear hE a; intro a hE
            refine d_take (v := Value.bool false) p5_33_17 ns5_33 (by kernel_rfl) (by kernel_rfl) (fun _ _ _ h => h) hE wn_none rfl ⟨B_g4, B_gx, B_g8, trivial⟩ (fun W hS => (st_move rfl)) rfl ?_
            clear hE a; intro a hE
            refine d_take (v := Value.pointer (some ⟨g4, 0, none⟩)) p5_33_18 ns5_33 (by kernel_rfl) (by kernel_rfl) (fun _ _ _ h => h) hE (wn_some g5_33_17 rfl rfl) rfl ⟨B_g4, B_gx, B_g8, trivial⟩ (fun W hS => (st_move rfl)) rfl ?_
            clear hE a; intro a hE
            refine d_take (v := Value.pointer (some ⟨g4, 0, none⟩)) p5_33_19 ns5_33 (by kernel_rfl) (by kernel_rfl) (fun _ _ _ h => h) hE (wn_some g5_33_17 rfl rfl) rfl ⟨B_g4, B_gx, B_g8, trivial⟩ (fun W hS => (st_nil rfl)) rfl ?_
            clear hE a; intro a hE
            refine d_take (v := Value.pointer (some ⟨g4, 1, none⟩)) p5_33_20 ns5_33 (by kernel_rfl) (by kernel_rfl) (fun _ _ _ h => h) hE (wn_some g5_33_17 rfl rfl) rfl ⟨B_g4, B_gx, B_g8, trivial⟩ (fun W hS => (st_fieldAddr Try.underlying41 rfl tS4 rfl rfl)) rfl ?_
            clear hE a; intro a hE
            refine d_take (v := Value.bool true) p5_33_21 ns5_33 (by kernel_rfl) (by kernel_rfl) (fun _ _ _ h => h) hE (wn_some g5_33_17 rfl rfl) rfl ⟨B_g4, B_gx, B_g8, trivial⟩ (fun W hS => (st_load1 tA4 rfl ((blk_cell hS.1 1).trans rfl))) rfl ?_
            clear hE a; intro a hE
            refine d_take (v := Value.bool false) p5_33_22 ns5_33 (by kernel_rfl) (by kernel_rfl) (fun _ _ _ h => h) hE (wn_some g5_33_17 rfl rfl) rfl ⟨B_g4, B_gx, B_g8, trivial⟩ (fun W hS => (st_not rfl rfl)) rfl ?_
            clear hE a; intro a hE
            refine d_take (v := Value.bool false) p5_33_23 ns5_33 (by kernel_rfl) (by kernel_rfl) (fun _ _ _ h => h) hE (wn_some g5_33_17 rfl rfl) rfl ⟨B_g4, B_gx, B_g8, trivial⟩ (fun W hS => (st_move rfl)) rfl ?_
            clear hE a; intro a hE
            refine d_skip p5_33_24 ns5_33 (by kernel_rfl) (by kernel_rfl) (fun _ _ _ h => h) hE (wn_some g5_33_23 rfl rfl) rfl ⟨B_g4, B_gx, B_g8, trivial⟩ rfl ?_
            clear hE a; intro a hE
            refine d_skip p5_33_25 ns5_33 (by kernel_rfl) (by kernel_rfl) (fun _ _ _ h => h) hE (wn_some g5_33_23 rfl rfl) rfl ⟨B_g4, B_gx, B_g8, trivial⟩ rfl ?_
            clear hE a; intro a hE
            refine d_take (v := Value.bool false) p5_33_26 ns5_33 (by kernel_rfl) (by kernel_rfl) (fun _ _ _ h => h) hE (wn_some g5_33_17 rfl rfl) rfl ⟨B_g4, B_gx, B_g8, trivial⟩ (fun W hS => (st_pick rfl rfl)) rfl ?_
            clear hE a; intro a hE
            refine d_take (v := Value.bool false) p5_33_27 ns5_33 (by kernel_rfl) (by kernel_rfl) (fun _ _ _ h => h) hE wn_none rfl ⟨B_g4, B_gx, B_g8, trivial⟩ (fun W hS => (st_pick rfl rfl)) rfl ?_
            clear hE a; intro a hE
            refine d_take (v := Value.bool false) p5_33_28 ns5_33 (by kernel_rfl) (by kernel_rfl) (fun _ _ _ h => h) hE wn_none rfl ⟨B_g4, B_gx, B_g8, trivial⟩ (fun W hS => (st_move rfl)) rfl ?_
            clear hE a; intro a hE
            refine d_take (v := Value.pointer (some ⟨g4, 0, none⟩)) p5_33_29 ns5_33 (by kernel_rfl) (by kernel_rfl) (fun _ _ _ h => h) hE (wn_some g5_33_28 rfl rfl) rfl ⟨B_g4, B_gx, B_g8, trivial⟩ (fun W hS => (st_move rfl)) rfl ?_
            clear hE a; intro a hE
            refine d_take (v := Value.pointer (some ⟨g4, 0, none⟩)) p5_33_30 ns5_33 (by kernel_rfl) (by kernel_rfl) (fun _ _ _ h => h) hE (wn_some g5_33_28 rfl rfl) rfl ⟨B_g4, B_gx, B_g8, trivial⟩ (fun W hS => (st_nil rfl)) rfl ?_
            clear hE a; intro a hE
            refine d_take (v := Value.pointer (some ⟨g4, 1, none⟩)) p5_33_31 ns5_33 (by kernel_rfl) (by kernel_rfl) (fun _ _ _ h => h) hE (wn_some g5_33_28 rfl rfl) rfl ⟨B_g4, B_gx, B_g8, trivial⟩ (fun W hS => (st_fieldAddr Try.underlying41 rfl tS4 rfl rfl)) rfl ?_
            clear hE a; intro a hE
            refine d_take (v := Value.bool true) p5_33_32 ns5_33 (by kernel_rfl) (by kernel_rfl) (fun _ _ _ h => h) hE (wn_some g5_33_28 rfl rfl) rfl ⟨B_g4, B_gx, B_g8, trivial⟩ (fun W hS => (st_load1 tA4 rfl ((blk_cell hS.1 1).trans rfl))) rfl ?_
            clear hE a; intro a hE
            refine d_take (v := Value.bool true) p5_33_33 ns5_33 (by kernel_rfl) (by kernel_rfl) (fun _ _ _ h => h) hE (wn_some g5_33_28 rfl rfl) rfl ⟨B_g4, B_gx, B_g8, trivial⟩ (fun W hS => (st_move rfl)) rfl ?_
            clear hE a; intro a hE
            refine d_take (v := Value.int .i64 0) p5_33_34 ns5_33 (by kernel_rfl) (by kernel_rfl) (fun _ _ _ h => h) hE (wn_some g5_33_33 rfl rfl) rfl ⟨B_g4, B_gx, B_g8, trivial⟩ (fun W hS => (st_move rfl)) rfl ?_
            clear hE a; intro a hE
            refine d_take (v := Value.bool false) p5_33_35 ns5_33 (by kernel_rfl) (by kernel_rfl) (fun _ _ _ h => h) hE (wn_some g5_33_33 rfl rfl) rfl ⟨B_g4, B_gx, B_g8, trivial⟩ (fun W hS => (st_neq (b := false) rfl rfl (by decide))) rfl ?_
            clear hE a; intro a hE
            refine d_take (v := Value.bool false) p5_33_36 ns5_33 (by kernel_rfl) (by kernel_rfl) (fun _ _ _ h => h) hE (wn_some g5_33_33 rfl rfl) rfl ⟨B_g4, B_gx, B_g8, trivial⟩ (fun W hS => (st_move rfl)) rfl ?_
            clear hE a; intro a hE
            refine d_take (v := Value.float .f64 (moveF is m nn)) p5_33_37 ns5_33 (by kernel_rfl) (by kernel_rfl) (fun _ _ _ h => h) hE (wn_some g5_33_36 rfl rfl) rfl ⟨B_g4, B_gx, B_g8, trivial⟩ (fun W hS => (st_move rfl)) rfl ?_
            clear hE a; intro a hE
            refine d_take (v := Value.pointer (some ⟨g4, 0, none⟩)) p5_33_38 ns5_33 (by kernel_rfl) (by kernel_rfl) (fun _ _ _ h => h) hE (wn_some g5_33_36 rfl rfl) rfl ⟨B_g4, B_gx, B_g8, trivial⟩ (fun W hS => (st_move rfl)) rfl ?_
            clear hE a; intro a hE
            refine d_take (v := Value.pointer (some ⟨g4, 0, none⟩)) p5_33_39 ns5_33 (by kernel_rfl) (by kernel_rfl) (fun _ _ _ h => h) hE (wn_some g5_33_36 rfl rfl) rfl ⟨B_g4, B_gx, B_g8, trivial⟩ (fun W hS => (st_nil rfl)) rfl ?_
            clear hE a; intro a hE
            refine d_take (v := Value.pointer (some ⟨g4, 0, none⟩)) p5_33_40 ns5_33 (by kernel_rfl) (by kernel_rfl) (fun _ _ _ h => h) hE (wn_some g5_33_36 rfl rfl) rfl ⟨B_g4, B_gx, B_g8, trivial⟩ (fun W hS => (st_fieldAddr Try.underlying41 rfl tS22 rfl rfl)) rfl ?_
            clear hE a; intro a hE
            refine d_take (v := Value.float .f64 (moveF is m nn)) p5_33_41 ns5_33 (by kernel_rfl) (by kernel_rfl) (fun _ _ _ h => h) hE (wn_some g5_33_36 rfl rfl) rfl ⟨B_g4, B_gx, B_g8, trivial⟩ (fun W hS => (st_load1 tA22 rfl ((blk_cell hS.1 0).trans rfl))) rfl ?_
            clear hE a; intro a hE
            refine d_one (by kernel_rfl) rfl (s_call (xs := [Operand.tmp 143, Operand.tmp 147]) (args := [Value.float .f64 (moveF is m nn), Value.float .f64 (moveF is m nn)]) p5_33_42 hE (wn_some g5_33_36 rfl rfl) rfl rfl Try.func25 cl25 (same_self (moveF is m nn) _) ?_)
            rintro e w20 ⟨rfl, hk⟩
            replace B_g4 := kp_blk B_g4 hk (fun h => h)
            replace B_gx := kp_blk B_gx hk (fun h => h)
            replace B_g8 := kp_blk B_g8 hk (fun h => h)
            replace K_0 := K_0.then_ hk (fun _ h => h.elim)
            refine ⟨_, rfl, ?_⟩
            clear hE a; intro a hE
            refine ⟨⟨B_g4, B_gx, B_g8, trivial⟩, ?_⟩
            refine d_take (v := Value.bool false) p5_33_43 ns5_33 (by kernel_rfl) (by kernel_rfl) (fun _ _ _ h => h) hE (wn_some g5_33_36 rfl rfl) rfl ⟨B_g4, B_gx, B_g8, trivial⟩ (fun W hS => (st_not rfl rfl)) rfl ?_
            clear hE a; intro a hE
            refine d_take (v := Value.bool false) p5_33_44 ns5_33 (by kernel_rfl) (by kernel_rfl) (fun _ _ _ h => h) hE (wn_some g5_33_33 rfl rfl) rfl ⟨B_g4, B_gx, B_g8, trivial⟩ (fun W hS => (st_pick rfl rfl)) rfl ?_
            clear hE a; intro a hE
            refine d_take (v := Value.bool false) p5_33_45 ns5_33 (by kernel_rfl) (by kernel_rfl) (fun _ _ _ h => h) hE (wn_some g5_33_28 rfl rfl) rfl ⟨B_g4, B_gx, B_g8, trivial⟩ (fun W hS => (st_pick rfl rfl)) rfl ?_
            clear hE a; intro a hE
            refine d_take (v := Value.bool false) p5_33_46 ns5_33 (by kernel_rfl) (by kernel_rfl) (fun _ _ _ h => h) hE wn_none rfl ⟨B_g4, B_gx, B_g8, trivial⟩ (fun W hS => (st_pick rfl rfl)) rfl ?_
            clear hE a; intro a hE
            refine d_end (by kernel_rfl) ?_
            refine x_norm ?_
            refine c_cond (t := false) hE rfl ?_
            refine wp_skip ?_
            refine x_normB ?_
            refine x_norm ?_
            refine c_regL R5_5_l ?_
            refine p_cons (s_still p5_5_0 hE wn_none rfl (st_move rfl) ?_)
            clear hE a; intro a hE
            refine p_cons (s_still p5_5_1 hE wn_none rfl (st_add (z := (k : Int) + 1) rfl rfl (wr_i64 _ (by omega) (by omega))) ?_)
            clear hE a; intro a hE
            refine p_cons (s_still p5_5_2 hE wn_none rfl (st_assign rfl) ?_)
            clear hE a; intro a hE
            refine p_nil ?_
            refine x_norm ?_
            have hs9 : 0 ≤ (senF s (nn : Int)) ∧ (senF s (nn : Int)) ≤ 1099511627776 := (by unfold senF; split <;> omega)
            have hm9 : true = true → right (moveF is m nn) := fun _ => hmR
            exact ⟨k + 1, by omega, gx, (moveF is m nn), true, (senF s (nn : Int)), En.sub hE ⟨rfl, rfl, rfl, rfl, trivial⟩, by omega, hm9, hs9, B_g4, B_gx, z_0_gx, n_g4_gx, K_0⟩
          ·
            rcases Decidable.em (nn < 1) with hLO | hLO
            ·
              refine c_reg R5_15_l ?_
              refine p_cons (s_still p5_15_0 hE wn_none rfl (st_move rfl) ?_)
              clear hE a; intro a hE
              refine p_cons (s_still p5_15_1 hE wn_none rfl (st_fieldAddr Try.underlying43 rfl tS3 rfl rfl) ?_)
              clear hE a; intro a hE
              refine p_cons (s_still p5_15_2 hE wn_none rfl (st_load1 tA3 rfl ((blk_cell B_g8 1).trans rfl)) ?_)
              clear hE a; intro a hE
              refine p_cons (s_call (xs := [Operand.tmp 45, Operand.tmp 47]) (args := [Value.pointer (some ⟨gx, 0, none⟩), Value.int .i64 nn]) p5_15_3 hE wn_none rfl rfl Try.func17 cl17 (Sample_no gx nn hNN _) ?_)
              rintro e w21 ⟨rfl, hk⟩
              replace B_g4 := kp_blk B_g4 hk (fun h => h)
              replace B_gx := kp_blk B_gx hk (fun h => h)
              replace B_g8 := kp_blk B_g8 hk (fun h => h)
              replace K_0 := K_0.then_ hk (fun _ h => h.elim)
              refine ⟨_, rfl, ?_⟩
              clear hE a; intro a hE
              refine p_cons (s_still p5_15_4 hE wn_none rfl (st_assign rfl) ?_)
              clear hE a; intro a hE
              refine p_nil ?_
              refine x_norm ?_
              refine c_reg R5_16_l ?_
              refine p_cons (s_still p5_16_0 hE wn_none rfl (st_fieldAddr Try.underlying43 rfl tS3 rfl rfl) ?_)
              clear hE a; intro a hE
              refine p_cons (s_still p5_16_1 hE wn_none rfl (st_load1 tA3 rfl ((blk_cell B_g8 1).trans rfl)) ?_)
              clear hE a; intro a hE
              refine p_cons (s_still p5_16_2 hE wn_none rfl (st_lss (b := true) rfl rfl (decide_eq_true (by omega))) ?_)
              clear hE a; intro a hE
              refine p_cons (s_still p5_16_3 hE wn_none rfl (st_move rfl) ?_)
              clear hE a; intro a hE
              refine p_cons (s_skip p5_16_4 hE (wn_some g5_16_3 rfl rfl) rfl ?_)
              clear hE a; intro a hE
              refine p_cons (s_skip p5_16_5 hE (wn_some g5_16_3 rfl rfl) rfl ?_)
              clear hE a; intro a hE
              refine p_cons (s_skip p5_16_6 hE (wn_some g5_16_3 rfl rfl) rfl ?_)
              clear hE a; intro a hE
              refine p_cons (s_still p5_16_7 hE wn_none rfl (st_pick rfl rfl) ?_)
              clear hE a; intro a hE
              refine p_nil ?_
              refine x_norm ?_
              refine c_cond (t := true) hE rfl ?_
              refine c_regL R5_17_l ?_
              refine p_cons (s_still p5_17_0 hE wn_none rfl (st_move rfl) ?_)
              clear hE a; intro a hE
              refine p_cons (s_still p5_17_1 hE wn_none rfl (st_eql (b := true) rfl rfl (by decide)) ?_)
              clear hE a; intro a hE
              refine p_cons (s_still p5_17_2 hE wn_none rfl (st_assign rfl) ?_)
              clear hE a; intro a hE
              refine p_nil ?_
              refine x_normB ?_
              refine x_norm ?_
              rcases Decidable.em (is = true) with hIS | hIS
              ·
                obtain rfl : is = true := hIS
                have hmR : right m := hm rfl
                refine c_reg R5_29_l ?_
                refine p_cons (s_still p5_29_0 hE wn_none rfl (st_move rfl) ?_)
                clear hE a; intro a hE
                refine p_cons (s_call (xs := [Operand.tmp 93]) (args := [Value.pointer (some ⟨gx, 0, none⟩)]) p5_29_1 hE wn_none rfl rfl Try.func22 cl22 (Mean_true gx m s _ B_gx) ?_)
                rintro e w22 ⟨rfl, hk⟩
                replace B_g4 := kp_blk B_g4 hk (fun h => h)
                replace B_gx := kp_blk B_gx hk (fun h => h)
                replace B_g8 := kp_blk B_g8 hk (fun h => h)
                replace K_0 := K_0.then_ hk (fun _ h => h.elim)
                refine ⟨_, rfl, ?_⟩
                clear hE a; intro a hE
                refine p_cons (s_still p5_29_2 hE wn_none rfl (st_move rfl) ?_)
                clear hE a; intro a hE
                refine p_cons (s_still p5_29_3 hE wn_none rfl (st_extract rfl rfl) ?_)
                clear hE a; intro a hE
                refine p_cons (s_still p5_29_4 hE wn_none rfl (st_extract rfl rfl) ?_)
                clear hE a; intro a hE
                refine p_cons (s_still p5_29_5 hE wn_none rfl (st_assign rfl) ?_)
                clear hE a; intro a hE
                refine p_cons (s_still p5_29_6 hE wn_none rfl (st_assign rfl) ?_)
                clear hE a; intro a hE
                refine p_nil ?_
                refine x_norm ?_
                refine c_reg R5_30_l ?_
                refine p_cons (s_still p5_30_0 hE wn_none rfl (st_assign rfl) ?_)
                clear hE a; intro a hE
                refine p_nil ?_
                refine x_norm ?_
                refine wp_seq ?_
                refine c_reg R5_31_l ?_
                refine p_cons (s_still p5_31_0 hE wn_none rfl (st_move rfl) ?_)
                clear hE a; intro a hE
                refine p_cons (s_still p5_31_1 hE wn_none rfl (st_nil rfl) ?_)
                clear hE a; intro a hE
                refine p_cons (s_still p5_31_2 hE wn_none rfl (st_fieldAddr Try.underlying41 rfl tS4 rfl rfl) ?_)
                clear hE a; intro a hE
                refine p_cons (s_still p5_31_3 hE wn_none rfl (st_load1 tA4 rfl ((blk_cell B_g4 1).trans rfl)) ?_)
                clear hE a; intro a hE
                refine p_nil ?_
                refine x_norm ?_
                refine c_cond (t := true) hE rfl ?_
                refine c_regL R5_32_l ?_
                refine p_cons (s_still p5_32_0 hE wn_none rfl (st_move rfl) ?_)
                clear hE a; intro a hE
                refine p_cons (s_still p5_32_1 hE wn_none rfl (st_nil rfl) ?_)
                clear hE a; intro a hE
                refine p_cons (s_still p5_32_2 hE wn_none rfl (st_fieldAddr Try.underlying41 rfl tS22 rfl rfl) ?_)
                clear hE a; intro a hE
                refine p_cons (s_still p5_32_3 hE wn_none rfl (st_load1 tA22 rfl ((blk_cell B_g4 0).trans rfl)) ?_)
                clear hE a; intro a hE
                refine p_cons (s_call (xs := [Operand.tmp 104]) (args := [Value.float .f64 m]) p5_32_4 hE wn_none rfl rfl Try.func15 cl15 (rcost_any m hmR _ rfl _) ?_)
                rintro e w23 ⟨rfl, hk⟩
                replace B_g4 := kp_blk B_g4 hk (fun h => h)
                replace B_gx := kp_blk B_gx hk (fun h => h)
                replace B_g8 := kp_blk B_g8 hk (fun h => h)
                replace K_0 := K_0.then_ hk (fun _ h => h.elim)
                refine ⟨_, rfl, ?_⟩
                clear hE a; intro a hE
                refine p_cons (s_still p5_32_5 hE wn_none rfl (st_assign rfl) ?_)
                clear hE a; intro a hE
                refine p_nil ?_
                refine x_norm ?_
                refine c_drawS (S := fun W => W.heap[g4]? = some (.cells #[Value.float .f64 m, Value.bool true, Value.int .i64 s] 41 (0, 0)) ∧ W.heap[gx]? = some (.cells #[Value.float .f64 m, Value.bool true, Value.int .i64 s] 38 (0, 0)) ∧ W.heap[g8]? = some (.cells #[Value.int .i64 kd, Value.int .i64 nn, Value.float .f64 fx] 43 (0, 0)) ∧ True) rfl rfl (listed := #[false, false, false, false, false, false, false, false, false, false, false, false, false, false, false, false, false, false, false, false, false, false, false, false, false, false, false, false, false, false, false, false, false, false, false, false, false, false, false, false, false, false, false, false, false, false, false]) rfl ?_
                intro w24 hh hk
                replace B_g4 := kp_blk B_g4 hk (fun h => h)
                replace B_gx := kp_blk B_gx hk (fun h => h)
                replace B_g8 := kp_blk B_g8 hk (fun h => h)
                replace K_0 := K_0.then_ hk (fun _ h => h.elim)
                clear hh hk
                refine d_take (v := Value.bool true) p5_33_0 ns5_33 (by kernel_rfl) (by kernel_rfl) (fun _ _ _ h => h) hE wn_none rfl ⟨B_g4, B_gx, B_g8, trivial⟩ (fun W hS => (st_move rfl)) rfl ?_
                clear hE a; intro a hE
                refine d_take (v := Value.bool false) p5_33_1 ns5_33 (by kernel_rfl) (by kernel_rfl) (fun _ _ _ h => h) hE wn_none rfl ⟨B_g4, B_gx, B_g8, trivial⟩ (fun W hS => (st_not rfl rfl)) rfl ?_
                clear hE a; intro a hE
                refine d_take (v := Value.bool false) p5_33_2 ns5_33 (by kernel_rfl) (by kernel_rfl) (fun _ _ _ h => h) hE wn_none rfl ⟨B_g4, B_gx, B_g8, trivial⟩ (fun W hS => (st_move rfl)) rfl ?_
                clear hE a; intro a hE
                refine d_take (v := Value.pointer (some ⟨gx, 0, none⟩)) p5_33_3 ns5_33 (by kernel_rfl) (by kernel_rfl) (fun _ _ _ h => h) hE (wn_some g5_33_2 rfl rfl) rfl ⟨B_g4, B_gx, B_g8, trivial⟩ (fun W hS => (st_move rfl)) rfl ?_
                clear hE a; intro a hE
                refine d_take (v := Value.pointer (some ⟨g4, 0, none⟩)) p5_33_5 ns5_33 (by kernel_rfl) (by kernel_rfl) (fun _ _ _ h => h) hE (wn_some g5_33_2 rfl rfl) rfl ⟨B_g4, B_gx, B_g8, trivial⟩ (fun W hS => (st_move rfl)) rfl ?_
                clear hE a; intro a hE
                refine d_take (v := Value.pointer (some ⟨g4, 0, none⟩)) p5_33_6 ns5_33 (by kernel_rfl) (by kernel_rfl) (fun _ _ _ h => h) hE (wn_some g5_33_2 rfl rfl) rfl ⟨B_g4, B_gx, B_g8, trivial⟩ (fun W hS => (st_nil rfl)) rfl ?_
                clear hE a; intro a hE
                refine d_take (v := Value.pointer (some ⟨g4, 2, none⟩)) p5_33_7 ns5_33 (by kernel_rfl) (by kernel_rfl) (fun _ _ _ h => h) hE (wn_some g5_33_2 rfl rfl) rfl ⟨B_g4, B_gx, B_g8, trivial⟩ (fun W hS => (st_fieldAddr Try.underlying41 rfl tS3 rfl rfl)) rfl ?_
                clear hE a; intro a hE
                refine d_take (v := Value.int .i64 s) p5_33_8 ns5_33 (by kernel_rfl) (by kernel_rfl) (fun _ _ _ h => h) hE (wn_some g5_33_2 rfl rfl) rfl ⟨B_g4, B_gx, B_g8, trivial⟩ (fun W hS => (st_load1 tA3 rfl ((blk_cell hS.1 2).trans rfl))) rfl ?_
                clear hE a; intro a hE
                refine d_one (by kernel_rfl) rfl (s_call (xs := [Operand.tmp 109]) (args := [Value.pointer (some ⟨gx, 0, none⟩)]) p5_33_4 hE (wn_some g5_33_2 rfl rfl) rfl rfl Try.func23 cl23 (Sent_any gx m true s _ B_gx) ?_)
                rintro e w25 ⟨rfl, hk⟩
                replace B_g4 := kp_blk B_g4 hk (fun h => h)
                replace B_gx := kp_blk B_gx hk (fun h => h)
                replace B_g8 := kp_blk B_g8 hk (fun h => h)
                replace K_0 := K_0.then_ hk (fun _ h => h.elim)
                refine ⟨_, rfl, ?_⟩
                clear hE a; intro a hE
                refine ⟨⟨B_g4, B_gx, B_g8, trivial⟩, ?_⟩
                refine d_take (v := Value.bool false) p5_33_9 ns5_33 (by kernel_rfl) (by kernel_rfl) (fun _ _ _ h => h) hE (wn_some g5_33_2 rfl rfl) rfl ⟨B_g4, B_gx, B_g8, trivial⟩ (fun W hS => (st_neq (b := false) rfl rfl (by simp))) rfl ?_
                clear hE a; intro a hE
                refine d_take (v := Value.bool false) p5_33_10 ns5_33 (by kernel_rfl) (by kernel_rfl) (fun _ _ _ h => h) hE wn_none rfl ⟨B_g4, B_gx, B_g8, trivial⟩ (fun W hS => (st_pick rfl rfl)) rfl ?_
                clear hE a; intro a hE
                refine d_take (v := Value.bool false) p5_33_11 ns5_33 (by kernel_rfl) (by kernel_rfl) (fun _ _ _ h => h) hE wn_none rfl ⟨B_g4, B_gx, B_g8, trivial⟩ (fun W hS => (st_move rfl)) rfl ?_
                clear hE a; intro a hE
                refine d_take (v := Value.pointer (some ⟨gx, 0, none⟩)) p5_33_12 ns5_33 (by kernel_rfl) (by kernel_rfl) (fun _ _ _ h => h) hE (wn_some g5_33_11 rfl rfl) rfl ⟨B_g4, B_gx, B_g8, trivial⟩ (fun W hS => (st_move rfl)) rfl ?_
                clear hE a; intro a hE
                refine d_take (v := Value.int .i64 (costV m)) p5_33_14 ns5_33 (by kernel_rfl) (by kernel_rfl) (fun _ _ _ h => h) hE (wn_some g5_33_11 rfl rfl) rfl ⟨B_g4, B_gx, B_g8, trivial⟩ (fun W hS => (st_move rfl)) rfl ?_
                clear hE a; intro a hE
                refine d_one (by kernel_rfl) rfl (s_call (xs := [Operand.tmp 118]) (args := [Value.pointer (some ⟨gx, 0, none⟩)]) p5_33_13 hE (wn_some g5_33_11 rfl rfl) rfl rfl Try.func24 cl24 (LCost_true gx m s hmR _ rfl _ B_gx) ?_)
                rintro e w26 ⟨rfl, hk⟩
                replace B_g4 := kp_blk B_g4 hk (fun h => h)
                replace B_gx := kp_blk B_gx hk (fun h => h)
                replace B_g8 := kp_blk B_g8 hk (fun h => h)
                replace K_0 := K_0.then_ hk (fun _ h => h.elim)
                refine ⟨_, rfl, ?_⟩
                clear hE a; intro a hE
                refine ⟨⟨B_g4, B_gx, B_g8, trivial⟩, ?_⟩
                refine d_take (v := Value.bool false) p5_33_15 ns5_33 (by kernel_rfl) (by kernel_rfl) (fun _ _ _ h => h) hE (wn_some g5_33_11 rfl rfl) rfl ⟨B_g4, B_gx, B_g8, trivial⟩ (fun W hS => (st_neq (b := false) rfl rfl (by simp))) rfl ?_
                clear hE a; intro a hE
                refine d_take (v := Value.bool false) p5_33_16 ns5_33 (by kernel_rfl) (by kernel_rfl) (fun _ _ _ h => h) hE wn_none rfl ⟨B_g4, B_gx, B_g8, trivial⟩ (fun W hS => (st_pick rfl rfl)) rfl ?_
                clear hE a; intro a hE
                refine d_take (v := Value.bool false) p5_33_17 ns5_33 (by kernel_rfl) (by kernel_rfl) (fun _ _ _ h => h) hE wn_none rfl ⟨B_g4, B_gx, B_g8, trivial⟩ (fun W hS => (st_move rfl)) rfl ?_
                clear hE a; intro a hE
                refine d_take (v := Value.pointer (some ⟨g4, 0, none⟩)) p5_33_18 ns5_33 (by kernel_rfl) (by kernel_rfl) (fun _ _ _ h => h) hE (wn_some g5_33_17 rfl rfl) rfl ⟨B_g4, B_gx, B_g8, trivial⟩ (fun W hS => (st_move rfl)) rfl ?_
                clear hE a; intro a hE
                refine d_take (v := Value.pointer (some ⟨g4, 0, none⟩)) p5_33_19 ns5_33 (by kernel_rfl) (by kernel_rfl) (fun _ _ _ h => h) hE (wn_some g5_33_17 rfl rfl) rfl ⟨B_g4, B_gx, B_g8, trivial⟩ (fun W hS => (st_nil rfl)) rfl ?_
                clear hE a; intro a hE
                refine d_take (v := Value.pointer (some ⟨g4, 1, none⟩)) p5_33_20 ns5_33 (by kernel_rfl) (by kernel_rfl) (fun _ _ _ h => h) hE (wn_some g5_33_17 rfl rfl) rfl ⟨B_g4, B_gx, B_g8, trivial⟩ (fun W hS => (st_fieldAddr Try.underlying41 rfl tS4 rfl rfl)) rfl ?_
                clear hE a; intro a hE
                refine d_take (v := Value.bool true) p5_33_21 ns5_33 (by kernel_rfl) (by kernel_rfl) (fun _ _ _ h => h) hE (wn_some g5_33_17 rfl rfl) rfl ⟨B_g4, B_gx, B_g8, trivial⟩ (fun W hS => (st_load1 tA4 rfl ((blk_cell hS.1 1).trans rfl))) rfl ?_
                clear hE a; intro a hE
                refine d_take (v := Value.bool false) p5_33_22 ns5_33 (by kernel_rfl) (by kernel_rfl) (fun _ _ _ h => h) hE (wn_some g5_33_17 rfl rfl) rfl ⟨B_g4, B_gx, B_g8, trivial⟩ (fun W hS => (st_not rfl rfl)) rfl ?_
                clear hE a; intro a hE
                refine d_take (v := Value.bool false) p5_33_23 ns5_33 (by kernel_rfl) (by kernel_rfl) (fun _ _ _ h => h) hE (wn_some g5_33_17 rfl rfl) rfl ⟨B_g4, B_gx, B_g8, trivial⟩ (fun W hS => (st_move rfl)) rfl ?_
                clear hE a; intro a hE
                refine d_skip p5_33_24 ns5_33 (by kernel_rfl) (by kernel_rfl) (fun _ _ _ h => h) hE (wn_some g5_33_23 rfl rfl) rfl ⟨B_g4, B_gx, B_g8, trivial⟩ rfl ?_
                clear hE a; intro a hE
                refine d_skip p5_33_25 ns5_33 (by kernel_rfl) (by kernel_rfl) (fun _ _ _ h => h) hE (wn_some g5_33_23 rfl rfl) rfl ⟨B_g4, B_gx, B_g8, trivial⟩ rfl ?_
                clear hE a; intro a hE
                refine d_take (v := Value.bool false) p5_33_26 ns5_33 (by kernel_rfl) (by kernel_rfl) (fun _ _ _ h => h) hE (wn_some g5_33_17 rfl rfl) rfl ⟨B_g4, B_gx, B_g8, trivial⟩ (fun W hS => (st_pick rfl rfl)) rfl ?_
                clear hE a; intro a hE
                refine d_take (v := Value.bool false) p5_33_27 ns5_33 (by kernel_rfl) (by kernel_rfl) (fun _ _ _ h => h) hE wn_none rfl ⟨B_g4, B_gx, B_g8, trivial⟩ (fun W hS => (st_pick rfl rfl)) rfl ?_
                clear hE a; intro a hE
                refine d_take (v := Value.bool false) p5_33_28 ns5_33 (by kernel_rfl) (by kernel_rfl) (fun _ _ _ h => h) hE wn_none rfl ⟨B_g4, B_gx, B_g8, trivial⟩ (fun W hS => (st_move rfl)) rfl ?_
                clear hE a; intro a hE
                refine d_take (v := Value.pointer (some ⟨g4, 0, none⟩)) p5_33_29 ns5_33 (by kernel_rfl) (by kernel_rfl) (fun _ _ _ h => h) hE (wn_some g5_33_28 rfl rfl) rfl ⟨B_g4, B_gx, B_g8, trivial⟩ (fun W hS => (st_move rfl)) rfl ?_
                clear hE a; intro a hE
                refine d_take (v := Value.pointer (some ⟨g4, 0, none⟩)) p5_33_30 ns5_33 (by kernel_rfl) (by kernel_rfl) (fun _ _ _ h => h) hE (wn_some g5_33_28 rfl rfl) rfl ⟨B_g4, B_gx, B_g8, trivial⟩ (fun W hS => (st_nil rfl)) rfl ?_
                clear hE a; intro a hE
                refine d_take (v := Value.pointer (some ⟨g4, 1, none⟩)) p5_33_31 ns5_33 (by kernel_rfl) (by kernel_rfl) (fun _ _ _ h => h) hE (wn_some g5_33_28 rfl rfl) rfl ⟨B_g4, B_gx, B_g8, trivial⟩ (fun W hS => (st_fieldAddr Try.underlying41 rfl tS4 rfl rfl)) rfl ?_
                clear hE a; intro a hE
                refine d_take (v := Value.bool true) p5_33_32 ns5_33 (by kernel_rfl) (by kernel_rfl) (fun _ _ _ h => h) hE (wn_some g5_33_28 rfl rfl) rfl ⟨B_g4, B_gx, B_g8, trivial⟩ (fun W hS => (st_load1 tA4 rfl ((blk_cell hS.1 1).trans rfl))) rfl ?_
                clear hE a; intro a hE
                refine d_take (v := Value.bool true) p5_33_33 ns5_33 (by kernel_rfl) (by kernel_rfl) (fun _ _ _ h => h) hE (wn_some g5_33_28 rfl rfl) rfl ⟨B_g4, B_gx, B_g8, trivial⟩ (fun W hS => (st_move rfl)) rfl ?_
                clear hE a; intro a hE
                refine d_take (v := Value.int .i64 0) p5_33_34 ns5_33 (by kernel_rfl) (by kernel_rfl) (fun _ _ _ h => h) hE (wn_some g5_33_33 rfl rfl) rfl ⟨B_g4, B_gx, B_g8, trivial⟩ (fun W hS => (st_move rfl)) rfl ?_
                clear hE a; intro a hE
                refine d_take (v := Value.bool false) p5_33_35 ns5_33 (by kernel_rfl) (by kernel_rfl) (fun _ _ _ h => h) hE (wn_some g5_33_33 rfl rfl) rfl ⟨B_g4, B_gx, B_g8, trivial⟩ (fun W hS => (st_neq (b := false) rfl rfl (by decide))) rfl ?_
                clear hE a; intro a hE
                refine d_take (v := Value.bool false) p5_33_36 ns5_33 (by kernel_rfl) (by kernel_rfl) (fun _ _ _ h => h) hE (wn_some g5_33_33 rfl rfl) rfl ⟨B_g4, B_gx, B_g8, trivial⟩ (fun W hS => (st_move rfl)) rfl ?_
                clear hE a; intro a hE
                refine d_take (v := Value.float .f64 m) p5_33_37 ns5_33 (by kernel_rfl) (by kernel_rfl) (fun _ _ _ h => h) hE (wn_some g5_33_36 rfl rfl) rfl ⟨B_g4, B_gx, B_g8, trivial⟩ (fun W hS => (st_move rfl)) rfl ?_
                clear hE a; intro a hE
                refine d_take (v := Value.pointer (some ⟨g4, 0, none⟩)) p5_33_38 ns5_33 (by kernel_rfl) (by kernel_rfl) (fun _ _ _ h => h) hE (wn_some g5_33_36 rfl rfl) rfl ⟨B_g4, B_gx, B_g8, trivial⟩ (fun W hS => (st_move rfl)) rfl ?_
                clear hE a; intro a hE
                refine d_take (v := Value.pointer (some ⟨g4, 0, none⟩)) p5_33_39 ns5_33 (by kernel_rfl) (by kernel_rfl) (fun _ _ _ h => h) hE (wn_some g5_33_36 rfl rfl) rfl ⟨B_g4, B_gx, B_g8, trivial⟩ (fun W hS => (st_nil rfl)) rfl ?_
                clear hE a; intro a hE
                refine d_take (v := Value.pointer (some ⟨g4, 0, none⟩)) p5_33_40 ns5_33 (by kernel_rfl) (by kernel_rfl) (fun _ _ _ h => h) hE (wn_some g5_33_36 rfl rfl) rfl ⟨B_g4, B_gx, B_g8, trivial⟩ (fun W hS => (st_fieldAddr Try.underlying41 rfl tS22 rfl rfl)) rfl ?_
                clear hE a; intro a hE
                refine d_take (v := Value.float .f64 m) p5_33_41 ns5_33 (by kernel_rfl) (by kernel_rfl) (fun _ _ _ h => h) hE (wn_some g5_33_36 rfl rfl) rfl ⟨B_g4, B_gx, B_g8, trivial⟩ (fun W hS => (st_load1 tA22 rfl ((blk_cell hS.1 0).trans rfl))) rfl ?_
                clear hE a; intro a hE
                refine d_one (by kernel_rfl) rfl (s_call (xs := [Operand.tmp 143, Operand.tmp 147]) (args := [Value.float .f64 m, Value.float .f64 m]) p5_33_42 hE (wn_some g5_33_36 rfl rfl) rfl rfl Try.func25 cl25 (same_self m _) ?_)
                rintro e w27 ⟨rfl, hk⟩
                replace B_g4 := kp_blk B_g4 hk (fun h => h)
                replace B_gx := kp_blk B_gx hk (fun h => h)
                replace B_g8 := kp_blk B_g8 hk (fun h => h)
                replace K_0 := K_0.then_ hk (fun _ h => h.elim)
                refine ⟨_, rfl, ?_⟩
                clear hE a; intro a hE
                refine ⟨⟨B_g4, B_gx, B_g8, trivial⟩, ?_⟩
                refine d_take (v := Value.bool false) p5_33_43 ns5_33 (by kernel_rfl) (by kernel_rfl) (fun _ _ _ h => h) hE (wn_some g5_33_36 rfl rfl) rfl ⟨B_g4, B_gx, B_g8, trivial⟩ (fun W hS => (st_not rfl rfl)) rfl ?_
                clear hE a; intro a hE
                refine d_take (v := Value.bool false) p5_33_44 ns5_33 (by kernel_rfl) (by kernel_rfl) (fun _ _ _ h => h) hE (wn_some g5_33_33 rfl rfl) rfl ⟨B_g4, B_gx, B_g8, trivial⟩ (fun W hS => (st_pick rfl rfl)) rfl ?_
                clear hE a; intro a hE
                refine d_take (v := Value.bool false) p5_33_45 ns5_33 (by kernel_rfl) (by kernel_rfl) (fun _ _ _ h => h) hE (wn_some g5_33_28 rfl rfl) rfl ⟨B_g4, B_gx, B_g8, trivial⟩ (fun W hS => (st_pick rfl rfl)) rfl ?_
                clear hE a; intro a hE
                refine d_take (v := Value.bool false) p5_33_46 ns5_33 (by kernel_rfl) (by kernel_rfl) (fun _ _ _ h => h) hE wn_none rfl ⟨B_g4, B_gx, B_g8, trivial⟩ (fun W hS => (st_pick rfl rfl)) rfl ?_
                clear hE a; intro a hE
                refine d_end (by kernel_rfl) ?_
                refine x_norm ?_
                refine c_cond (t := false) hE rfl ?_
                refine wp_skip ?_
                refine x_normB ?_
                refine x_norm ?_
                refine c_regL R5_5_l ?_
                refine p_cons (s_still p5_5_0 hE wn_none rfl (st_move rfl) ?_)
                clear hE a; intro a hE
                refine p_cons (s_still p5_5_1 hE wn_none rfl (st_add (z := (k : Int) + 1) rfl rfl (wr_i64 _ (by omega) (by omega))) ?_)
                clear hE a; intro a hE
                refine p_cons (s_still p5_5_2 hE wn_none rfl (st_assign rfl) ?_)
                clear hE a; intro a hE
                refine p_nil ?_
                refine x_norm ?_
                have hs9 : 0 ≤ s ∧ s ≤ 1099511627776 := hs
                have hm9 : true = true → right m := fun _ => hmR
                exact ⟨k + 1, by omega, gx, m, true, s, En.sub hE ⟨rfl, rfl, rfl, rfl, trivial⟩, by omega, hm9, hs9, B_g4, B_gx, z_0_gx, n_g4_gx, K_0⟩
              ·
                obtain rfl : is = false := by simpa using hIS
                refine c_reg R5_29_l ?_
                refine p_cons (s_still p5_29_0 hE wn_none rfl (st_move rfl) ?_)
                clear hE a; intro a hE
                refine p_cons (s_call (xs := [Operand.tmp 93]) (args := [Value.pointer (some ⟨gx, 0, none⟩)]) p5_29_1 hE wn_none rfl rfl Try.func22 cl22 (Mean_false gx m s _ B_gx) ?_)
                rintro e w28 ⟨rfl, hk⟩
                replace B_g4 := kp_blk B_g4 hk (fun h => h)
                replace B_gx := kp_blk B_gx hk (fun h => h)
                replace B_g8 := kp_blk B_g8 hk (fun h => h)
                replace K_0 := K_0.then_ hk (fun _ h => h.elim)
                refine ⟨_, rfl, ?_⟩
                clear hE a; intro a hE
                refine p_cons (s_still p5_29_2 hE wn_none rfl (st_move rfl) ?_)
                clear hE a; intro a hE
                refine p_cons (s_still p5_29_3 hE wn_none rfl (st_extract rfl rfl) ?_)
                clear hE a; intro a hE
                refine p_cons (s_still p5_29_4 hE wn_none rfl (st_extract rfl rfl) ?_)
                clear hE a; intro a hE
                refine p_cons (s_still p5_29_5 hE wn_none rfl (st_assign rfl) ?_)
                clear hE a; intro a hE
                refine p_cons (s_still p5_29_6 hE wn_none rfl (st_assign rfl) ?_)
                clear hE a; intro a hE
                refine p_nil ?_
                refine x_norm ?_
                refine c_reg R5_30_l ?_
                refine p_cons (s_still p5_30_0 hE wn_none rfl (st_assign rfl) ?_)
                clear hE a; intro a hE
                refine p_nil ?_
                refine x_norm ?_
                refine wp_seq ?_
                refine c_reg R5_31_l ?_
                refine p_cons (s_still p5_31_0 hE wn_none rfl (st_move rfl) ?_)
                clear hE a; intro a hE
                refine p_cons (s_still p5_31_1 hE wn_none rfl (st_nil rfl) ?_)
                clear hE a; intro a hE
                refine p_cons (s_still p5_31_2 hE wn_none rfl (st_fieldAddr Try.underlying41 rfl tS4 rfl rfl) ?_)
                clear hE a; intro a hE
                refine p_cons (s_still p5_31_3 hE wn_none rfl (st_load1 tA4 rfl ((blk_cell B_g4 1).trans rfl)) ?_)
                clear hE a; intro a hE
                refine p_nil ?_
                refine x_norm ?_
                refine c_cond (t := false) hE rfl ?_
                refine wp_skip ?_
                refine x_norm ?_
                refine c_drawS (S := fun W => W.heap[g4]? = some (.cells #[Value.float .f64 m, Value.bool false, Value.int .i64 s] 41 (0, 0)) ∧ W.heap[gx]? = some (.cells #[Value.float .f64 m, Value.bool false, Value.int .i64 s] 38 (0, 0)) ∧ W.heap[g8]? = some (.cells #[Value.int .i64 kd, Value.int .i64 nn, Value.float .f64 fx] 43 (0, 0)) ∧ True) rfl rfl (listed := #[false, false, false, false, false, false, false, false, false, false, false, false, false, false, false, false, false, false, false, false, false, false, false, false, false, false, false, false, false, false, false, false, false, false, false, false, false, false, false, false, false, false, false, false, false, false, false]) rfl ?_
                intro w29 hh hk
                replace B_g4 := kp_blk B_g4 hk (fun h => h)
                replace B_gx := kp_blk B_gx hk (fun h => h)
                replace B_g8 := kp_blk B_g8 hk (fun h => h)
                replace K_0 := K_0.then_ hk (fun _ h => h.elim)
                clear hh hk
                refine d_take (v := Value.bool true) p5_33_0 ns5_33 (by kernel_rfl) (by kernel_rfl) (fun _ _ _ h => h) hE wn_none rfl ⟨B_g4, B_gx, B_g8, trivial⟩ (fun W hS => (st_move rfl)) rfl ?_
                clear hE a; intro a hE
                refine d_take (v := Value.bool false) p5_33_1 ns5_33 (by kernel_rfl) (by kernel_rfl) (fun _ _ _ h => h) hE wn_none rfl ⟨B_g4, B_gx, B_g8, trivial⟩ (fun W hS => (st_not rfl rfl)) rfl ?_
                clear hE a; intro a hE
                refine d_take (v := Value.bool false) p5_33_2 ns5_33 (by kernel_rfl) (by kernel_rfl) (fun _ _ _ h => h) hE wn_none rfl ⟨B_g4, B_gx, B_g8, trivial⟩ (fun W hS => (st_move rfl)) rfl ?_
                clear hE a; intro a hE
                refine d_take (v := Value.pointer (some ⟨gx, 0, none⟩)) p5_33_3 ns5_33 (by kernel_rfl) (by kernel_rfl) (fun _ _ _ h => h) hE (wn_some g5_33_2 rfl rfl) rfl ⟨B_g4, B_gx, B_g8, trivial⟩ (fun W hS => (st_move rfl)) rfl ?_
                clear hE a; intro a hE
                refine d_take (v := Value.pointer (some ⟨g4, 0, none⟩)) p5_33_5 ns5_33 (by kernel_rfl) (by kernel_rfl) (fun _ _ _ h => h) hE (wn_some g5_33_2 rfl rfl) rfl ⟨B_g4, B_gx, B_g8, trivial⟩ (fun W hS => (st_move rfl)) rfl ?_
                clear hE a; intro a hE
                refine d_take (v := Value.pointer (some ⟨g4, 0, none⟩)) p5_33_6 ns5_33 (by kernel_rfl) (by kernel_rfl) (fun _ _ _ h => h) hE (wn_some g5_33_2 rfl rfl) rfl ⟨B_g4, B_gx, B_g8, trivial⟩ (fun W hS => (st_nil rfl)) rfl ?_
                clear hE a; intro a hE
                refine d_take (v := Value.pointer (some ⟨g4, 2, none⟩)) p5_33_7 ns5_33 (by kernel_rfl) (by kernel_rfl) (fun _ _ _ h => h) hE (wn_some g5_33_2 rfl rfl) rfl ⟨B_g4, B_gx, B_g8, trivial⟩ (fun W hS => (st_fieldAddr Try.underlying41 rfl tS3 rfl rfl)) rfl ?_
                clear hE a; intro a hE
                refine d_take (v := Value.int .i64 s) p5_33_8 ns5_33 (by kernel_rfl) (by kernel_rfl) (fun _ _ _ h => h) hE (wn_some g5_33_2 rfl rfl) rfl ⟨B_g4, B_gx, B_g8, trivial⟩ (fun W hS => (st_load1 tA3 rfl ((blk_cell hS.1 2).trans rfl))) rfl ?_
                clear hE a; intro a hE
                refine d_one (by kernel_rfl) rfl (s_call (xs := [Operand.tmp 109]) (args := [Value.pointer (some ⟨gx, 0, none⟩)]) p5_33_4 hE (wn_some g5_33_2 rfl rfl) rfl rfl Try.func23 cl23 (Sent_any gx m false s _ B_gx) ?_)
                rintro e w30 ⟨rfl, hk⟩
                replace B_g4 := kp_blk B_g4 hk (fun h => h)
                replace B_gx := kp_blk B_gx hk (fun h => h)
                replace B_g8 := kp_blk B_g8 hk (fun h => h)
                replace K_0 := K_0.then_ hk (fun _ h => h.elim)
                refine ⟨_, rfl, ?_⟩
                clear hE a; intro a hE
                refine ⟨⟨B_g4, B_gx, B_g8, trivial⟩, ?_⟩
                refine d_take (v := Value.bool false) p5_33_9 ns5_33 (by kernel_rfl) (by kernel_rfl) (fun _ _ _ h => h) hE (wn_some g5_33_2 rfl rfl) rfl ⟨B_g4, B_gx, B_g8, trivial⟩ (fun W hS => (st_neq (b := false) rfl rfl (by simp))) rfl ?_
                clear hE a; intro a hE
                refine d_take (v := Value.bool false) p5_33_10 ns5_33 (by kernel_rfl) (by kernel_rfl) (fun _ _ _ h => h) hE wn_none rfl ⟨B_g4, B_gx, B_g8, trivial⟩ (fun W hS => (st_pick rfl rfl)) rfl ?_
                clear hE a; intro a hE
                refine d_take (v := Value.bool false) p5_33_11 ns5_33 (by kernel_rfl) (by kernel_rfl) (fun _ _ _ h => h) hE wn_none rfl ⟨B_g4, B_gx, B_g8, trivial⟩ (fun W hS => (st_move rfl)) rfl ?_
                clear hE a; intro a hE
                refine d_take (v := Value.pointer (some ⟨gx, 0, none⟩)) p5_33_12 ns5_33 (by kernel_rfl) (by kernel_rfl) (fun _ _ _ h => h) hE (wn_some g5_33_11 rfl rfl) rfl ⟨B_g4, B_gx, B_g8, trivial⟩ (fun W hS => (st_move rfl)) rfl ?_
                clear hE a; intro a hE
                refine d_take (v := Value.int .i64 65535) p5_33_14 ns5_33 (by kernel_rfl) (by kernel_rfl) (fun _ _ _ h => h) hE (wn_some g5_33_11 rfl rfl) rfl ⟨B_g4, B_gx, B_g8, trivial⟩ (fun W hS => (st_move rfl)) rfl ?_
                clear hE a; intro a hE
                refine d_one (by kernel_rfl) rfl (s_call (xs := [Operand.tmp 118]) (args := [Value.pointer (some ⟨gx, 0, none⟩)]) p5_33_13 hE (wn_some g5_33_11 rfl rfl) rfl rfl Try.func24 cl24 (LCost_false gx m s _ B_gx) ?_)
                rintro e w31 ⟨rfl, hk⟩
                replace B_g4 := kp_blk B_g4 hk (fun h => h)
                replace B_gx := kp_blk B_gx hk (fun h => h)
                replace B_g8 := kp_blk B_g8 hk (fun h => h)
                replace K_0 := K_0.then_ hk (fun _ h => h.elim)
                refine ⟨_, rfl, ?_⟩
                clear hE a; intro a hE
                refine ⟨⟨B_g4, B_gx, B_g8, trivial⟩, ?_⟩
                refine d_take (v := Value.bool false) p5_33_15 ns5_33 (by kernel_rfl) (by kernel_rfl) (fun _ _ _ h => h) hE (wn_some g5_33_11 rfl rfl) rfl ⟨B_g4, B_gx, B_g8, trivial⟩ (fun W hS => (st_neq (b := false) rfl rfl (by decide))) rfl ?_
                clear hE a; intro a hE
                refine d_take (v := Value.bool false) p5_33_16 ns5_33 (by kernel_rfl) (by kernel_rfl) (fun _ _ _ h => h) hE wn_none rfl ⟨B_g4, B_gx, B_g8, trivial⟩ (fun W hS => (st_pick rfl rfl)) rfl ?_
                clear hE a; intro a hE
                refine d_take (v := Value.bool false) p5_33_17 ns5_33 (by kernel_rfl) (by kernel_rfl) (fun _ _ _ h => h) hE wn_none rfl ⟨B_g4, B_gx, B_g8, trivial⟩ (fun W hS => (st_move rfl)) rfl ?_
                clear hE a; intro a hE
                refine d_take (v := Value.pointer (some ⟨g4, 0, none⟩)) p5_33_18 ns5_33 (by kernel_rfl) (by kernel_rfl) (fun _ _ _ h => h) hE (wn_some g5_33_17 rfl rfl) rfl ⟨B_g4, B_gx, B_g8, trivial⟩ (fun W hS => (st_move rfl)) rfl ?_
                clear hE a; intro a hE
                refine d_take (v := Value.pointer (some ⟨g4, 0, none⟩)) p5_33_19 ns5_33 (by kernel_rfl) (by kernel_rfl) (fun _ _ _ h => h) hE (wn_some g5_33_17 rfl rfl) rfl ⟨B_g4, B_gx, B_g8, trivial⟩ (fun W hS => (st_nil rfl)) rfl ?_
                clear hE a; intro a hE
                refine d_take (v := Value.pointer (some ⟨g4, 1, none⟩)) p5_33_20 ns5_33 (by kernel_rfl) (by kernel_rfl) (fun _ _ _ h => h) hE (wn_some g5_33_17 rfl rfl) rfl ⟨B_g4, B_gx, B_g8, trivial⟩ (fun W hS => (st_fieldAddr Try.underlying41 rfl tS4 rfl rfl)) rfl ?_
                clear hE a; intro a hE
                refine d_take (v := Value.bool false) p5_33_21 ns5_33 (by kernel_rfl) (by kernel_rfl) (fun _ _ _ h => h) hE (wn_some g5_33_17 rfl rfl) rfl ⟨B_g4, B_gx, B_g8, trivial⟩ (fun W hS => (st_load1 tA4 rfl ((blk_cell hS.1 1).trans rfl))) rfl ?_
                clear hE a; intro a hE
                refine d_take (v := Value.bool true) p5_33_22 ns5_33 (by kernel_rfl) (by kernel_rfl) (fun _ _ _ h => h) hE (wn_some g5_33_17 rfl rfl) rfl ⟨B_g4, B_gx, B_g8, trivial⟩ (fun W hS => (st_not rfl rfl)) rfl ?_
                clear hE a; intro a hE
                refine d_take (v := Value.bool true) p5_33_23 ns5_33 (by kernel_rfl) (by kernel_rfl) (fun _ _ _ h => h) hE (wn_some g5_33_17 rfl rfl) rfl ⟨B_g4, B_gx, B_g8, trivial⟩ (fun W hS => (st_move rfl)) rfl ?_
                clear hE a; intro a hE
                refine d_take (v := Value.int .i64 8) p5_33_24 ns5_33 (by kernel_rfl) (by kernel_rfl) (fun _ _ _ h => h) hE (wn_some g5_33_23 rfl rfl) rfl ⟨B_g4, B_gx, B_g8, trivial⟩ (fun W hS => (st_move rfl)) rfl ?_
                clear hE a; intro a hE
                refine d_take (v := Value.bool false) p5_33_25 ns5_33 (by kernel_rfl) (by kernel_rfl) (fun _ _ _ h => h) hE (wn_some g5_33_23 rfl rfl) rfl ⟨B_g4, B_gx, B_g8, trivial⟩ (fun W hS => (st_neq (b := false) rfl rfl (by decide))) rfl ?_
                clear hE a; intro a hE
                refine d_take (v := Value.bool false) p5_33_26 ns5_33 (by kernel_rfl) (by kernel_rfl) (fun _ _ _ h => h) hE (wn_some g5_33_17 rfl rfl) rfl ⟨B_g4, B_gx, B_g8, trivial⟩ (fun W hS => (st_pick rfl rfl)) rfl ?_
                clear hE a; intro a hE
                refine d_take (v := Value.bool false) p5_33_27 ns5_33 (by kernel_rfl) (by kernel_rfl) (fun _ _ _ h => h) hE wn_none rfl ⟨B_g4, B_gx, B_g8, trivial⟩ (fun W hS => (st_pick rfl rfl)) rfl ?_
                clear hE a; intro a hE
                refine d_take (v := Value.bool false) p5_33_28 ns5_33 (by kernel_rfl) (by kernel_rfl) (fun _ _ _ h => h) hE wn_none rfl ⟨B_g4, B_gx, B_g8, trivial⟩ (fun W hS => (st_move rfl)) rfl ?_
                clear hE a; intro a hE
                refine d_take (v := Value.pointer (some ⟨g4, 0, none⟩)) p5_33_29 ns5_33 (by kernel_rfl) (by kernel_rfl) (fun _ _ _ h => h) hE (wn_some g5_33_28 rfl rfl) rfl ⟨B_g4, B_gx, B_g8, trivial⟩ (fun W hS => (st_move rfl)) rfl ?_
                clear hE a; intro a hE
                refine d_take (v := Value.pointer (some ⟨g4, 0, none⟩)) p5_33_30 ns5_33 (by kernel_rfl) (by kernel_rfl) (fun _ _ _ h => h) hE (wn_some g5_33_28 rfl rfl) rfl ⟨B_g4, B_gx, B_g8, trivial⟩ (fun W hS => (st_nil rfl)) rfl ?_
                clear hE a; intro a hE
                refine d_take (v := Value.pointer (some ⟨g4, 1, none⟩)) p5_33_31 ns5_33 (by kernel_rfl) (by kernel_rfl) (fun _ _ _ h => h) hE (wn_some g5_33_28 rfl rfl) rfl ⟨B_g4, B_gx, B_g8, trivial⟩ (fun W hS => (st_fieldAddr Try.underlying41 rfl tS4 rfl rfl)) rfl ?_
                clear hE a; intro a hE
                refine d_take (v := Value.bool false) p5_33_32 ns5_33 (by kernel_rfl) (by kernel_rfl) (fun _ _ _ h => h) hE (wn_some g5_33_28 rfl rfl) rfl ⟨B_g4, B_gx, B_g8, trivial⟩ (fun W hS => (st_load1 tA4 rfl ((blk_cell hS.1 1).trans rfl))) rfl ?_
                clear hE a; intro a hE
                refine d_take (v := Value.bool false) p5_33_33 ns5_33 (by kernel_rfl) (by kernel_rfl) (fun _ _ _ h => h) hE (wn_some g5_33_28 rfl rfl) rfl ⟨B_g4, B_gx, B_g8, trivial⟩ (fun W hS => (st_move rfl)) rfl ?_
                clear hE a; intro a hE
                refine d_skip p5_33_34 ns5_33 (by kernel_rfl) (by kernel_rfl) (fun _ _ _ h => h) hE (wn_some g5_33_33 rfl rfl) rfl ⟨B_g4, B_gx, B_g8, trivial⟩ rfl ?_
                clear hE a; intro a hE
                refine d_skip p5_33_35 ns5_33 (by kernel_rfl) (by kernel_rfl) (fun _ _ _ h => h) hE (wn_some g5_33_33 rfl rfl) rfl ⟨B_g4, B_gx, B_g8, trivial⟩ rfl ?_
                clear hE a; intro a hE
                refine d_skip p5_33_36 ns5_33 (by kernel_rfl) (by kernel_rfl) (fun _ _ _ h => h) hE (wn_some g5_33_33 rfl rfl) rfl ⟨B_g4, B_gx, B_g8, trivial⟩ rfl ?_
                clear hE a; intro a hE
                refine d_skip p5_33_37 ns5_33 (by kernel_rfl) (by kernel_rfl) (fun _ _ _ h => h) hE (wn_undef g5_33_36 rfl) rfl ⟨B_g4, B_gx, B_g8, trivial⟩ rfl ?_
                clear hE a; intro a hE
                refine d_skip p5_33_38 ns5_33 (by kernel_rfl) (by kernel_rfl) (fun _ _ _ h => h) hE (wn_undef g5_33_36 rfl) rfl ⟨B_g4, B_gx, B_g8, trivial⟩ rfl ?_
                clear hE a; intro a hE
                refine d_skip p5_33_39 ns5_33 (by kernel_rfl) (by kernel_rfl) (fun _ _ _ h => h) hE (wn_undef g5_33_36 rfl) rfl ⟨B_g4, B_gx, B_g8, trivial⟩ rfl ?_
                clear hE a; intro a hE
                refine d_skip p5_33_40 ns5_33 (by kernel_rfl) (by kernel_rfl) (fun _ _ _ h => h) hE (wn_undef g5_33_36 rfl) rfl ⟨B_g4, B_gx, B_g8, trivial⟩ rfl ?_
                clear hE a; intro a hE
                refine d_skip p5_33_41 ns5_33 (by kernel_rfl) (by kernel_rfl) (fun _ _ _ h => h) hE (wn_undef g5_33_36 rfl) rfl ⟨B_g4, B_gx, B_g8, trivial⟩ rfl ?_
                clear hE a; intro a hE
                refine d_skip p5_33_42 ns5_33 (by kernel_rfl) (by kernel_rfl) (fun _ _ _ h => h) hE (wn_undef g5_33_36 rfl) rfl ⟨B_g4, B_gx, B_g8, trivial⟩ rfl ?_
                clear hE a; intro a hE
                refine d_skip p5_33_43 ns5_33 (by kernel_rfl) (by kernel_rfl) (fun _ _ _ h => h) hE (wn_undef g5_33_36 rfl) rfl ⟨B_g4, B_gx, B_g8, trivial⟩ rfl ?_
                clear hE a; intro a hE
                refine d_skip p5_33_44 ns5_33 (by kernel_rfl) (by kernel_rfl) (fun _ _ _ h => h) hE (wn_some g5_33_33 rfl rfl) rfl ⟨B_g4, B_gx, B_g8, trivial⟩ rfl ?_
                clear hE a; intro a hE
                refine d_take (v := Value.bool false) p5_33_45 ns5_33 (by kernel_rfl) (by kernel_rfl) (fun _ _ _ h => h) hE (wn_some g5_33_28 rfl rfl) rfl ⟨B_g4, B_gx, B_g8, trivial⟩ (fun W hS => (st_pick rfl rfl)) rfl ?_
                clear hE a; intro a hE
                refine d_take (v := Value.bool false) p5_33_46 ns5_33 (by kernel_rfl) (by kernel_rfl) (fun _ _ _ h => h) hE wn_none rfl ⟨B_g4, B_gx, B_g8, trivial⟩ (fun W hS => (st_pick rfl rfl)) rfl ?_
                clear hE a; intro a hE
                refine d_end (by kernel_rfl) ?_
                refine x_norm ?_
                refine c_cond (t := false) hE rfl ?_
                refine wp_skip ?_
                refine x_normB ?_
                refine x_norm ?_
                refine c_regL R5_5_l ?_
                refine p_cons (s_still p5_5_0 hE wn_none rfl (st_move rfl) ?_)
                clear hE a; intro a hE
                refine p_cons (s_still p5_5_1 hE wn_none rfl (st_add (z := (k : Int) + 1) rfl rfl (wr_i64 _ (by omega) (by omega))) ?_)
                clear hE a; intro a hE
                refine p_cons (s_still p5_5_2 hE wn_none rfl (st_assign rfl) ?_)
                clear hE a; intro a hE
                refine p_nil ?_
                refine x_norm ?_
                have hs9 : 0 ≤ s ∧ s ≤ 1099511627776 := hs
                have hm9 : false = true → right m := fun h => by cases h
                exact ⟨k + 1, by omega, gx, m, false, s, En.sub hE ⟨rfl, rfl, rfl, rfl, trivial⟩, by omega, hm9, hs9, B_g4, B_gx, z_0_gx, n_g4_gx, K_0⟩
            ·
              refine c_reg R5_15_l ?_
              refine p_cons (s_still p5_15_0 hE wn_none rfl (st_move rfl) ?_)
              clear hE a; intro a hE
              refine p_cons (s_still p5_15_1 hE wn_none rfl (st_fieldAddr Try.underlying43 rfl tS3 rfl rfl) ?_)
              clear hE a; intro a hE
              refine p_cons (s_still p5_15_2 hE wn_none rfl (st_load1 tA3 rfl ((blk_cell B_g8 1).trans rfl)) ?_)
              clear hE a; intro a hE
              refine p_cons (s_call (xs := [Operand.tmp 45, Operand.tmp 47]) (args := [Value.pointer (some ⟨gx, 0, none⟩), Value.int .i64 nn]) p5_15_3 hE wn_none rfl rfl Try.func17 cl17 (Sample_no gx nn hNN _) ?_)
              rintro e w32 ⟨rfl, hk⟩
              replace B_g4 := kp_blk B_g4 hk (fun h => h)
              replace B_gx := kp_blk B_gx hk (fun h => h)
              replace B_g8 := kp_blk B_g8 hk (fun h => h)
              replace K_0 := K_0.then_ hk (fun _ h => h.elim)
              refine ⟨_, rfl, ?_⟩
              clear hE a; intro a hE
              refine p_cons (s_still p5_15_4 hE wn_none rfl (st_assign rfl) ?_)
              clear hE a; intro a hE
              refine p_nil ?_
              refine x_norm ?_
              refine c_reg R5_16_l ?_
              refine p_cons (s_still p5_16_0 hE wn_none rfl (st_fieldAddr Try.underlying43 rfl tS3 rfl rfl) ?_)
              clear hE a; intro a hE
              refine p_cons (s_still p5_16_1 hE wn_none rfl (st_load1 tA3 rfl ((blk_cell B_g8 1).trans rfl)) ?_)
              clear hE a; intro a hE
              refine p_cons (s_still p5_16_2 hE wn_none rfl (st_lss (b := false) rfl rfl (decide_eq_false (by omega))) ?_)
              clear hE a; intro a hE
              refine p_cons (s_still p5_16_3 hE wn_none rfl (st_move rfl) ?_)
              clear hE a; intro a hE
              refine p_cons (s_still p5_16_4 hE (wn_some g5_16_3 rfl rfl) rfl (st_fieldAddr Try.underlying43 rfl tS3 rfl rfl) ?_)
              clear hE a; intro a hE
              refine p_cons (s_still p5_16_5 hE (wn_some g5_16_3 rfl rfl) rfl (st_load1 tA3 rfl ((blk_cell B_g8 1).trans rfl)) ?_)
              clear hE a; intro a hE
              refine p_cons (s_still p5_16_6 hE (wn_some g5_16_3 rfl rfl) rfl (st_gtr (b := true) rfl rfl (decide_eq_true (by omega))) ?_)
              clear hE a; intro a hE
              refine p_cons (s_still p5_16_7 hE wn_none rfl (st_pick rfl rfl) ?_)
              clear hE a; intro a hE
              refine p_nil ?_
              refine x_norm ?_
              refine c_cond (t := true) hE rfl ?_
              refine c_regL R5_17_l ?_
              refine p_cons (s_still p5_17_0 hE wn_none rfl (st_move rfl) ?_)
              clear hE a; intro a hE
              refine p_cons (s_still p5_17_1 hE wn_none rfl (st_eql (b := true) rfl rfl (by decide)) ?_)
              clear hE a; intro a hE
              refine p_cons (s_still p5_17_2 hE wn_none rfl (st_assign rfl) ?_)
              clear hE a; intro a hE
              refine p_nil ?_
              refine x_normB ?_
              refine x_norm ?_
              rcases Decidable.em (is = true) with hIS | hIS
              ·
                obtain rfl : is = true := hIS
                have hmR : right m := hm rfl
                refine c_reg R5_29_l ?_
                refine p_cons (s_still p5_29_0 hE wn_none rfl (st_move rfl) ?_)
                clear hE a; intro a hE
                refine p_cons (s_call (xs := [Operand.tmp 93]) (args := [Value.pointer (some ⟨gx, 0, none⟩)]) p5_29_1 hE wn_none rfl rfl Try.func22 cl22 (Mean_true gx m s _ B_gx) ?_)
                rintro e w33 ⟨rfl, hk⟩
                replace B_g4 := kp_blk B_g4 hk (fun h => h)
                replace B_gx := kp_blk B_gx hk (fun h => h)
                replace B_g8 := kp_blk B_g8 hk (fun h => h)
                replace K_0 := K_0.then_ hk (fun _ h => h.elim)
                refine ⟨_, rfl, ?_⟩
                clear hE a; intro a hE
                refine p_cons (s_still p5_29_2 hE wn_none rfl (st_move rfl) ?_)
                clear hE a; intro a hE
                refine p_cons (s_still p5_29_3 hE wn_none rfl (st_extract rfl rfl) ?_)
                clear hE a; intro a hE
                refine p_cons (s_still p5_29_4 hE wn_none rfl (st_extract rfl rfl) ?_)
                clear hE a; intro a hE
                refine p_cons (s_still p5_29_5 hE wn_none rfl (st_assign rfl) ?_)
                clear hE a; intro a hE
                refine p_cons (s_still p5_29_6 hE wn_none rfl (st_assign rfl) ?_)
                clear hE a; intro a hE
                refine p_nil ?_
                refine x_norm ?_
                refine c_reg R5_30_l ?_
                refine p_cons (s_still p5_30_0 hE wn_none rfl (st_assign rfl) ?_)
                clear hE a; intro a hE
                refine p_nil ?_
                refine x_norm ?_
                refine wp_seq ?_
                refine c_reg R5_31_l ?_
                refine p_cons (s_still p5_31_0 hE wn_none rfl (st_move rfl) ?_)
                clear hE a; intro a hE
                refine p_cons (s_still p5_31_1 hE wn_none rfl (st_nil rfl) ?_)
                clear hE a; intro a hE
                refine p_cons (s_still p5_31_2 hE wn_none rfl (st_fieldAddr Try.underlying41 rfl tS4 rfl rfl) ?_)
                clear hE a; intro a hE
                refine p_cons (s_still p5_31_3 hE wn_none rfl (st_load1 tA4 rfl ((blk_cell B_g4 1).trans rfl)) ?_)
                clear hE a; intro a hE
                refine p_nil ?_
                refine x_norm ?_
                refine c_cond (t := true) hE rfl ?_
                refine c_regL R5_32_l ?_
                refine p_cons (s_still p5_32_0 hE wn_none rfl (st_move rfl) ?_)
                clear hE a; intro a hE
                refine p_cons (s_still p5_32_1 hE wn_none rfl (st_nil rfl) ?_)
                clear hE a; intro a hE
                refine p_cons (s_still p5_32_2 hE wn_none rfl (st_fieldAddr Try.underlying41 rfl tS22 rfl rfl) ?_)
                clear hE a; intro a hE
                refine p_cons (s_still p5_32_3 hE wn_none rfl (st_load1 tA22 rfl ((blk_cell B_g4 0).trans rfl)) ?_)
                clear hE a; intro a hE
                refine p_cons (s_call (xs := [Operand.tmp 104]) (args := [Value.float .f64 m]) p5_32_4 hE wn_none rfl rfl Try.func15 cl15 (rcost_any m hmR _ rfl _) ?_)
                rintro e w34 ⟨rfl, hk⟩
                replace B_g4 := kp_blk B_g4 hk (fun h => h)
                replace B_gx := kp_blk B_gx hk (fun h => h)
                replace B_g8 := kp_blk B_g8 hk (fun h => h)
                replace K_0 := K_0.then_ hk (fun _ h => h.elim)
                refine ⟨_, rfl, ?_⟩
                clear hE a; intro a hE
                refine p_cons (s_still p5_32_5 hE wn_none rfl (st_assign rfl) ?_)
                clear hE a; intro a hE
                refine p_nil ?_
                refine x_norm ?_
                refine c_drawS (S := fun W => W.heap[g4]? = some (.cells #[Value.float .f64 m, Value.bool true, Value.int .i64 s] 41 (0, 0)) ∧ W.heap[gx]? = some (.cells #[Value.float .f64 m, Value.bool true, Value.int .i64 s] 38 (0, 0)) ∧ W.heap[g8]? = some (.cells #[Value.int .i64 kd, Value.int .i64 nn, Value.float .f64 fx] 43 (0, 0)) ∧ True) rfl rfl (listed := #[false, false, false, false, false, false, false, false, false, false, false, false, false, false, false, false, false, false, false, false, false, false, false, false, false, false, false, false, false, false, false, false, false, false, false, false, false, false, false, false, false, false, false, false, false, false, false]) rfl ?_
                intro w35 hh hk
                replace B_g4 := kp_blk B_g4 hk (fun h => h)
                replace B_gx := kp_blk B_gx hk (fun h => h)
                replace B_g8 := kp_blk B_g8 hk (fun h => h)
                replace K_0 := K_0.then_ hk (fun _ h => h.elim)
                clear hh hk
                refine d_take (v := Value.bool true) p5_33_0 ns5_33 (by kernel_rfl) (by kernel_rfl) (fun _ _ _ h => h) hE wn_none rfl ⟨B_g4, B_gx, B_g8, trivial⟩ (fun W hS => (st_move rfl)) rfl ?_
                clear hE a; intro a hE
                refine d_take (v := Value.bool false) p5_33_1 ns5_33 (by kernel_rfl) (by kernel_rfl) (fun _ _ _ h => h) hE wn_none rfl ⟨B_g4, B_gx, B_g8, trivial⟩ (fun W hS => (st_not rfl rfl)) rfl ?_
                clear hE a; intro a hE
                refine d_take (v := Value.bool false) p5_33_2 ns5_33 (by kernel_rfl) (by kernel_rfl) (fun _ _ _ h => h) hE wn_none rfl ⟨B_g4, B_gx, B_g8, trivial⟩ (fun W hS => (st_move rfl)) rfl ?_
                clear hE a; intro a hE
                refine d_take (v := Value.pointer (some ⟨gx, 0, none⟩)) p5_33_3 ns5_33 (by kernel_rfl) (by kernel_rfl) (fun _ _ _ h => h) hE (wn_some g5_33_2 rfl rfl) rfl ⟨B_g4, B_gx, B_g8, trivial⟩ (fun W hS => (st_move rfl)) rfl ?_
                clear hE a; intro a hE
                refine d_take (v := Value.pointer (some ⟨g4, 0, none⟩)) p5_33_5 ns5_33 (by kernel_rfl) (by kernel_rfl) (fun _ _ _ h => h) hE (wn_some g5_33_2 rfl rfl) rfl ⟨B_g4, B_gx, B_g8, trivial⟩ (fun W hS => (st_move rfl)) rfl ?_
                clear hE a; intro a hE
                refine d_take (v := Value.pointer (some ⟨g4, 0, none⟩)) p5_33_6 ns5_33 (by kernel_rfl) (by kernel_rfl) (fun _ _ _ h => h) hE (wn_some g5_33_2 rfl rfl) rfl ⟨B_g4, B_gx, B_g8, trivial⟩ (fun W hS => (st_nil rfl)) rfl ?_
                clear hE a; intro a hE
                refine d_take (v := Value.pointer (some ⟨g4, 2, none⟩)) p5_33_7 ns5_33 (by kernel_rfl) (by kernel_rfl) (fun _ _ _ h => h) hE (wn_some g5_33_2 rfl rfl) rfl ⟨B_g4, B_gx, B_g8, trivial⟩ (fun W hS => (st_fieldAddr Try.underlying41 rfl tS3 rfl rfl)) rfl ?_
                clear hE a; intro a hE
                refine d_take (v := Value.int .i64 s) p5_33_8 ns5_33 (by kernel_rfl) (by kernel_rfl) (fun _ _ _ h => h) hE (wn_some g5_33_2 rfl rfl) rfl ⟨B_g4, B_gx, B_g8, trivial⟩ (fun W hS => (st_load1 tA3 rfl ((blk_cell hS.1 2).trans rfl))) rfl ?_
                clear hE a; intro a hE
                refine d_one (by kernel_rfl) rfl (s_call (xs := [Operand.tmp 109]) (args := [Value.pointer (some ⟨gx, 0, none⟩)]) p5_33_4 hE (wn_some g5_33_2 rfl rfl) rfl rfl Try.func23 cl23 (Sent_any gx m true s _ B_gx) ?_)
                rintro e w36 ⟨rfl, hk⟩
                replace B_g4 := kp_blk B_g4 hk (fun h => h)
                replace B_gx := kp_blk B_gx hk (fun h => h)
                replace B_g8 := kp_blk B_g8 hk (fun h => h)
                replace K_0 := K_0.then_ hk (fun _ h => h.elim)
                refine ⟨_, rfl, ?_⟩
                clear hE a; intro a hE
                refine ⟨⟨B_g4, B_gx, B_g8, trivial⟩, ?_⟩
                refine d_take (v := Value.bool false) p5_33_9 ns5_33 (by kernel_rfl) (by kernel_rfl) (fun _ _ _ h => h) hE (wn_some g5_33_2 rfl rfl) rfl ⟨B_g4, B_gx, B_g8, trivial⟩ (fun W hS => (st_neq (b := false) rfl rfl (by simp))) rfl ?_
                clear hE a; intro a hE
                refine d_take (v := Value.bool false) p5_33_10 ns5_33 (by kernel_rfl) (by kernel_rfl) (fun _ _ _ h => h) hE wn_none rfl ⟨B_g4, B_gx, B_g8, trivial⟩ (fun W hS => (st_pick rfl rfl)) rfl ?_
                clear hE a; intro a hE
                refine d_take (v := Value.bool false) p5_33_11 ns5_33 (by kernel_rfl) (by kernel_rfl) (fun _ _ _ h => h) hE wn_none rfl ⟨B_g4, B_gx, B_g8, trivial⟩ (fun W hS => (st_move rfl)) rfl ?_
                clear hE a; intro a hE
                refine d_take (v := Value.pointer (some ⟨gx, 0, none⟩)) p5_33_12 ns5_33 (by kernel_rfl) (by kernel_rfl) (fun _ _ _ h => h) hE (wn_some g5_33_11 rfl rfl) rfl ⟨B_g4, B_gx, B_g8, trivial⟩ (fun W hS => (st_move rfl)) rfl ?_
                clear hE a; intro a hE
                refine d_take (v := Value.int .i64 (costV m)) p5_33_14 ns5_33 (by kernel_rfl) (by kernel_rfl) (fun _ _ _ h => h) hE (wn_some g5_33_11 rfl rfl) rfl ⟨B_g4, B_gx, B_g8, trivial⟩ (fun W hS => (st_move rfl)) rfl ?_
                clear hE a; intro a hE
                refine d_one (by kernel_rfl) rfl (s_call (xs := [Operand.tmp 118]) (args := [Value.pointer (some ⟨gx, 0, none⟩)]) p5_33_13 hE (wn_some g5_33_11 rfl rfl) rfl rfl Try.func24 cl24 (LCost_true gx m s hmR _ rfl _ B_gx) ?_)
                rintro e w37 ⟨rfl, hk⟩
                replace B_g4 := kp_blk B_g4 hk (fun h => h)
                replace B_gx := kp_blk B_gx hk (fun h => h)
                replace B_g8 := kp_blk B_g8 hk (fun h => h)
                replace K_0 := K_0.then_ hk (fun _ h => h.elim)
                refine ⟨_, rfl, ?_⟩
                clear hE a; intro a hE
                refine ⟨⟨B_g4, B_gx, B_g8, trivial⟩, ?_⟩
                refine d_take (v := Value.bool false) p5_33_15 ns5_33 (by kernel_rfl) (by kernel_rfl) (fun _ _ _ h => h) hE (wn_some g5_33_11 rfl rfl) rfl ⟨B_g4, B_gx, B_g8, trivial⟩ (fun W hS => (st_neq (b := false) rfl rfl (by simp))) rfl ?_
                clear hE a; intro a hE
                refine d_take (v := Value.bool false) p5_33_16 ns5_33 (by kernel_rfl) (by kernel_rfl) (fun _ _ _ h => h) hE wn_none rfl ⟨B_g4, B_gx, B_g8, trivial⟩ (fun W hS => (st_pick rfl rfl)) rfl ?_
                clear hE a; intro a hE
                refine d_take (v := Value.bool false) p5_33_17 ns5_33 (by kernel_rfl) (by kernel_rfl) (fun _ _ _ h => h) hE wn_none rfl ⟨B_g4, B_gx, B_g8, trivial⟩ (fun W hS => (st_move rfl)) rfl ?_
                clear hE a; intro a hE
                refine d_take (v := Value.pointer (some ⟨g4, 0, none⟩)) p5_33_18 ns5_33 (by kernel_rfl) (by kernel_rfl) (fun _ _ _ h => h) hE (wn_some g5_33_17 rfl rfl) rfl ⟨B_g4, B_gx, B_g8, trivial⟩ (fun W hS => (st_move rfl)) rfl ?_
                clear hE a; intro a hE
                refine d_take (v := Value.pointer (some ⟨g4, 0, none⟩)) p5_33_19 ns5_33 (by kernel_rfl) (by kernel_rfl) (fun _ _ _ h => h) hE (wn_some g5_33_17 rfl rfl) rfl ⟨B_g4, B_gx, B_g8, trivial⟩ (fun W hS => (st_nil rfl)) rfl ?_
                clear hE a; intro a hE
                refine d_take (v := Value.pointer (some ⟨g4, 1, none⟩)) p5_33_20 ns5_33 (by kernel_rfl) (by kernel_rfl) (fun _ _ _ h => h) hE (wn_some g5_33_17 rfl rfl) rfl ⟨B_g4, B_gx, B_g8, trivial⟩ (fun W hS => (st_fieldAddr Try.underlying41 rfl tS4 rfl rfl)) rfl ?_
                clear hE a; intro a hE
                refine d_take (v := Value.bool true) p5_33_21 ns5_33 (by kernel_rfl) (by kernel_rfl) (fun _ _ _ h => h) hE (wn_some g5_33_17 rfl rfl) rfl ⟨B_g4, B_gx, B_g8, trivial⟩ (fun W hS => (st_load1 tA4 rfl ((blk_cell hS.1 1).trans rfl))) rfl ?_
                clear hE a; intro a hE
                refine d_take (v := Value.bool false) p5_33_22 ns5_33 (by kernel_rfl) (by kernel_rfl) (fun _ _ _ h => h) hE (wn_some g5_33_17 rfl rfl) rfl ⟨B_g4, B_gx, B_g8, trivial⟩ (fun W hS => (st_not rfl rfl)) rfl ?_
                clear hE a; intro a hE
                refine d_take (v := Value.bool false) p5_33_23 ns5_33 (by kernel_rfl) (by kernel_rfl) (fun _ _ _ h => h) hE (wn_some g5_33_17 rfl rfl) rfl ⟨B_g4, B_gx, B_g8, trivial⟩ (fun W hS => (st_move rfl)) rfl ?_
                clear hE a; intro a hE
                refine d_skip p5_33_24 ns5_33 (by kernel_rfl) (by kernel_rfl) (fun _ _ _ h => h) hE (wn_some g5_33_23 rfl rfl) rfl ⟨B_g4, B_gx, B_g8, trivial⟩ rfl ?_
                clear hE a; intro a hE
                refine d_skip p5_33_25 ns5_33 (by kernel_rfl) (by kernel_rfl) (fun _ _ _ h => h) hE (wn_some g5_33_23 rfl rfl) rfl ⟨B_g4, B_gx, B_g8, trivial⟩ rfl ?_
                clear hE a; intro a hE
                refine d_take (v := Value.bool false) p5_33_26 ns5_33 (by kernel_rfl) (by kernel_rfl) (fun _ _ _ h => h) hE (wn_some g5_33_17 rfl rfl) rfl ⟨B_g4, B_gx, B_g8, trivial⟩ (fun W hS => (st_pick rfl rfl)) rfl ?_
                clear hE a; intro a hE
                refine d_take (v := Value.bool false) p5_33_27 ns5_33 (by kernel_rfl) (by kernel_rfl) (fun _ _ _ h => h) hE wn_none rfl ⟨B_g4, B_gx, B_g8, trivial⟩ (fun W hS => (st_pick rfl rfl)) rfl ?_
                clear hE a; intro a hE
                refine d_take (v := Value.bool false) p5_33_28 ns5_33 (by kernel_rfl) (by kernel_rfl) (fun _ _ _ h => h) hE wn_none rfl ⟨B_g4, B_gx, B_g8, trivial⟩ (fun W hS => (st_move rfl)) rfl ?_
                clear hE a; intro a hE
                refine d_take (v := Value.pointer (some ⟨g4, 0, none⟩)) p5_33_29 ns5_33 (by kernel_rfl) (by kernel_rfl) (fun _ _ _ h => h) hE (wn_some g5_33_28 rfl rfl) rfl ⟨B_g4, B_gx, B_g8, trivial⟩ (fun W hS => (st_move rfl)) rfl ?_
                clear hE a; intro a hE
                refine d_take (v := Value.pointer (some ⟨g4, 0, none⟩)) p5_33_30 ns5_33 (by kernel_rfl) (by kernel_rfl) (fun _ _ _ h => h) hE (wn_some g5_33_28 rfl rfl) rfl ⟨B_g4, B_gx, B_g8, trivial⟩ (fun W hS => (st_nil rfl)) rfl ?_
                clear hE a; intro a hE
                refine d_take (v := Value.pointer (some ⟨g4, 1, none⟩)) p5_33_31 ns5_33 (by kernel_rfl) (by kernel_rfl) (fun _ _ _ h => h) hE (wn_some g5_33_28 rfl rfl) rfl ⟨B_g4, B_gx, B_g8, trivial⟩ (fun W hS => (st_fieldAddr Try.underlying41 rfl tS4 rfl rfl)) rfl ?_
                clear hE a; intro a hE
                refine d_take (v := Value.bool true) p5_33_32 ns5_33 (by kernel_rfl) (by kernel_rfl) (fun _ _ _ h => h) hE (wn_some g5_33_28 rfl rfl) rfl ⟨B_g4, B_gx, B_g8, trivial⟩ (fun W hS => (st_load1 tA4 rfl ((blk_cell hS.1 1).trans rfl))) rfl ?_
                clear hE a; intro a hE
                refine d_take (v := Value.bool true) p5_33_33 ns5_33 (by kernel_rfl) (by kernel_rfl) (fun _ _ _ h => h) hE (wn_some g5_33_28 rfl rfl) rfl ⟨B_g4, B_gx, B_g8, trivial⟩ (fun W hS => (st_move rfl)) rfl ?_
                clear hE a; intro a hE
                refine d_take (v := Value.int .i64 0) p5_33_34 ns5_33 (by kernel_rfl) (by kernel_rfl) (fun _ _ _ h => h) hE (wn_some g5_33_33 rfl rfl) rfl ⟨B_g4, B_gx, B_g8, trivial⟩ (fun W hS => (st_move rfl)) rfl ?_
                clear hE a; intro a hE
                refine d_take (v := Value.bool false) p5_33_35 ns5_33 (by kernel_rfl) (by kernel_rfl) (fun _ _ _ h => h) hE (wn_some g5_33_33 rfl rfl) rfl ⟨B_g4, B_gx, B_g8, trivial⟩ (fun W hS => (st_neq (b := false) rfl rfl (by decide))) rfl ?_
                clear hE a; intro a hE
                refine d_take (v := Value.bool false) p5_33_36 ns5_33 (by kernel_rfl) (by kernel_rfl) (fun _ _ _ h => h) hE (wn_some g5_33_33 rfl rfl) rfl ⟨B_g4, B_gx, B_g8, trivial⟩ (fun W hS => (st_move rfl)) rfl ?_
                clear hE a; intro a hE
                refine d_take (v := Value.float .f64 m) p5_33_37 ns5_33 (by kernel_rfl) (by kernel_rfl) (fun _ _ _ h => h) hE (wn_some g5_33_36 rfl rfl) rfl ⟨B_g4, B_gx, B_g8, trivial⟩ (fun W hS => (st_move rfl)) rfl ?_
                clear hE a; intro a hE
                refine d_take (v := Value.pointer (some ⟨g4, 0, none⟩)) p5_33_38 ns5_33 (by kernel_rfl) (by kernel_rfl) (fun _ _ _ h => h) hE (wn_some g5_33_36 rfl rfl) rfl ⟨B_g4, B_gx, B_g8, trivial⟩ (fun W hS => (st_move rfl)) rfl ?_
                clear hE a; intro a hE
                refine d_take (v := Value.pointer (some ⟨g4, 0, none⟩)) p5_33_39 ns5_33 (by kernel_rfl) (by kernel_rfl) (fun _ _ _ h => h) hE (wn_some g5_33_36 rfl rfl) rfl ⟨B_g4, B_gx, B_g8, trivial⟩ (fun W hS => (st_nil rfl)) rfl ?_
                clear hE a; intro a hE
                refine d_take (v := Value.pointer (some ⟨g4, 0, none⟩)) p5_33_40 ns5_33 (by kernel_rfl) (by kernel_rfl) (fun _ _ _ h => h) hE (wn_some g5_33_36 rfl rfl) rfl ⟨B_g4, B_gx, B_g8, trivial⟩ (fun W hS => (st_fieldAddr Try.underlying41 rfl tS22 rfl rfl)) rfl ?_
                clear hE a; intro a hE
                refine d_take (v := Value.float .f64 m) p5_33_41 ns5_33 (by kernel_rfl) (by kernel_rfl) (fun _ _ _ h => h) hE (wn_some g5_33_36 rfl rfl) rfl ⟨B_g4, B_gx, B_g8, trivial⟩ (fun W hS => (st_load1 tA22 rfl ((blk_cell hS.1 0).trans rfl))) rfl ?_
                clear hE a; intro a hE
                refine d_one (by kernel_rfl) rfl (s_call (xs := [Operand.tmp 143, Operand.tmp 147]) (args := [Value.float .f64 m, Value.float .f64 m]) p5_33_42 hE (wn_some g5_33_36 rfl rfl) rfl rfl Try.func25 cl25 (same_self m _) ?_)
                rintro e w38 ⟨rfl, hk⟩
                replace B_g4 := kp_blk B_g4 hk (fun h => h)
                replace B_gx := kp_blk B_gx hk (fun h => h)
                replace B_g8 := kp_blk B_g8 hk (fun h => h)
                replace K_0 := K_0.then_ hk (fun _ h => h.elim)
                refine ⟨_, rfl, ?_⟩
                clear hE a; intro a hE
                refine ⟨⟨B_g4, B_gx, B_g8, trivial⟩, ?_⟩
                refine d_take (v := Value.bool false) p5_33_43 ns5_33 (by kernel_rfl) (by kernel_rfl) (fun _ _ _ h => h) hE (wn_some g5_33_36 rfl rfl) rfl ⟨B_g4, B_gx, B_g8, trivial⟩ (fun W hS => (st_not rfl rfl)) rfl ?_
                clear hE a; intro a hE
                refine d_take (v := Value.bool false) p5_33_44 ns5_33 (by kernel_rfl) (by kernel_rfl) (fun _ _ _ h => h) hE (wn_some g5_33_33 rfl rfl) rfl ⟨B_g4, B_gx, B_g8, trivial⟩ (fun W hS => (st_pick rfl rfl)) rfl ?_
                clear hE a; intro a hE
                refine d_take (v := Value.bool false) p5_33_45 ns5_33 (by kernel_rfl) (by kernel_rfl) (fun _ _ _ h => h) hE (wn_some g5_33_28 rfl rfl) rfl ⟨B_g4, B_gx, B_g8, trivial⟩ (fun W hS => (st_pick rfl rfl)) rfl ?_
                clear hE a; intro a hE
                refine d_take (v := Value.bool false) p5_33_46 ns5_33 (by kernel_rfl) (by kernel_rfl) (fun _ _ _ h => h) hE wn_none rfl ⟨B_g4, B_gx, B_g8, trivial⟩ (fun W hS => (st_pick rfl rfl)) rfl ?_
                clear hE a; intro a hE
                refine d_end (by kernel_rfl) ?_
                refine x_norm ?_
                refine c_cond (t := false) hE rfl ?_
                refine wp_skip ?_
                refine x_normB ?_
                refine x_norm ?_
                refine c_regL R5_5_l ?_
                refine p_cons (s_still p5_5_0 hE wn_none rfl (st_move rfl) ?_)
                clear hE a; intro a hE
                refine p_cons (s_still p5_5_1 hE wn_none rfl (st_add (z := (k : Int) + 1) rfl rfl (wr_i64 _ (by omega) (by omega))) ?_)
                clear hE a; intro a hE
                refine p_cons (s_still p5_5_2 hE wn_none rfl (st_assign rfl) ?_)
                clear hE a; intro a hE
                refine p_nil ?_
                refine x_norm ?_
                have hs9 : 0 ≤ s ∧ s ≤ 1099511627776 := hs
                have hm9 : true = true → right m := fun _ => hmR
                exact ⟨k + 1, by omega, gx, m, true, s, En.sub hE ⟨rfl, rfl, rfl, rfl, trivial⟩, by omega, hm9, hs9, B_g4, B_gx, z_0_gx, n_g4_gx, K_0⟩
              ·
                obtain rfl : is = false := by simpa using hIS
                refine c_reg R5_29_l ?_
                refine p_cons (s_still p5_29_0 hE wn_none rfl (st_move rfl) ?_)
                clear hE a; intro a hE
                refine p_cons (s_call (xs := [Operand.tmp 93]) (args := [Value.pointer (some ⟨gx, 0, none⟩)]) p5_29_1 hE wn_none rfl rfl Try.func22 cl22 (Mean_false gx m s _ B_gx) ?_)
                rintro e w39 ⟨rfl, hk⟩
                replace B_g4 := kp_blk B_g4 hk (fun h => h)
                replace B_gx := kp_blk B_gx hk (fun h => h)
                replace B_g8 := kp_blk B_g8 hk (fun h => h)
                replace K_0 := K_0.then_ hk (fun _ h => h.elim)
                refine ⟨_, rfl, ?_⟩
                clear hE a; intro a hE
                refine p_cons (s_still p5_29_2 hE wn_none rfl (st_move rfl) ?_)
                clear hE a; intro a hE
                refine p_cons (s_still p5_29_3 hE wn_none rfl (st_extract rfl rfl) ?_)
                clear hE a; intro a hE
                refine p_cons (s_still p5_29_4 hE wn_none rfl (st_extract rfl rfl) ?_)
                clear hE a; intro a hE
                refine p_cons (s_still p5_29_5 hE wn_none rfl (st_assign rfl) ?_)
                clear hE a; intro a hE
                refine p_cons (s_still p5_29_6 hE wn_none rfl (st_assign rfl) ?_)
                clear hE a; intro a hE
                refine p_nil ?_
                refine x_norm ?_
                refine c_reg R5_30_l ?_
                refine p_cons (s_still p5_30_0 hE wn_none rfl (st_assign rfl) ?_)
                clear hE a; intro a hE
                refine p_nil ?_
                refine x_norm ?_
                refine wp_seq ?_
                refine c_reg R5_31_l ?_
                refine p_cons (s_still p5_31_0 hE wn_none rfl (st_move rfl) ?_)
                clear hE a; intro a hE
                refine p_cons (s_still p5_31_1 hE wn_none rfl (st_nil rfl) ?_)
                clear hE a; intro a hE
                refine p_cons (s_still p5_31_2 hE wn_none rfl (st_fieldAddr Try.underlying41 rfl tS4 rfl rfl) ?_)
                clear hE a; intro a hE
                refine p_cons (s_still p5_31_3 hE wn_none rfl (st_load1 tA4 rfl ((blk_cell B_g4 1).trans rfl)) ?_)
                clear hE a; intro a hE
                refine p_nil ?_
                refine x_norm ?_
                refine c_cond (t := false) hE rfl ?_
                refine wp_skip ?_
                refine x_norm ?_
                refine c_drawS (S := fun W => W.heap[g4]? = some (.cells #[Value.float .f64 m, Value.bool false, Value.int .i64 s] 41 (0, 0)) ∧ W.heap[gx]? = some (.cells #[Value.float .f64 m, Value.bool false, Value.int .i64 s] 38 (0, 0)) ∧ W.heap[g8]? = some (.cells #[Value.int .i64 kd, Value.int .i64 nn, Value.float .f64 fx] 43 (0, 0)) ∧ True) rfl rfl (listed := #[false, false, false, false, false, false, false, false, false, false, false, false, false, false, false, false, false, false, false, false, false, false, false, false, false, false, false, false, false, false, false, false, false, false, false, false, false, false, false, false, false, false, false, false, false, false, false]) rfl ?_
                intro w40 hh hk
                replace B_g4 := kp_blk B_g4 hk (fun h => h)
                replace B_gx := kp_blk B_gx hk (fun h => h)
                replace B_g8 := kp_blk B_g8 hk (fun h => h)
                replace K_0 := K_0.then_ hk (fun _ h => h.elim)
                clear hh hk
                refine d_take (v := Value.bool true) p5_33_0 ns5_33 (by kernel_rfl) (by kernel_rfl) (fun _ _ _ h => h) hE wn_none rfl ⟨B_g4, B_gx, B_g8, trivial⟩ (fun W hS => (st_move rfl)) rfl ?_
                clear hE a; intro a hE
                refine d_take (v := Value.bool false) p5_33_1 ns5_33 (by kernel_rfl) (by kernel_rfl) (fun _ _ _ h => h) hE wn_none rfl ⟨B_g4, B_gx, B_g8, trivial⟩ (fun W hS => (st_not rfl rfl)) rfl ?_
                clear hE a; intro a hE
                refine d_take (v := Value.bool false) p5_33_2 ns5_33 (by kernel_rfl) (by kernel_rfl) (fun _ _ _ h => h) hE wn_none rfl ⟨B_g4, B_gx, B_g8, trivial⟩ (fun W hS => (st_move rfl)) rfl ?_
                clear hE a; intro a hE
                refine d_take (v := Value.pointer (some ⟨gx, 0, none⟩)) p5_33_3 ns5_33 (by kernel_rfl) (by kernel_rfl) (fun _ _ _ h => h) hE (wn_some g5_33_2 rfl rfl) rfl ⟨B_g4, B_gx, B_g8, trivial⟩ (fun W hS => (st_move rfl)) rfl ?_
                clear hE a; intro a hE
                refine d_take (v := Value.pointer (some ⟨g4, 0, none⟩)) p5_33_5 ns5_33 (by kernel_rfl) (by kernel_rfl) (fun _ _ _ h => h) hE (wn_some g5_33_2 rfl rfl) rfl ⟨B_g4, B_gx, B_g8, trivial⟩ (fun W hS => (st_move rfl)) rfl ?_
                clear hE a; intro a hE
                refine d_take (v := Value.pointer (some ⟨g4, 0, none⟩)) p5_33_6 ns5_33 (by kernel_rfl) (by kernel_rfl) (fun _ _ _ h => h) hE (wn_some g5_33_2 rfl rfl) rfl ⟨B_g4, B_gx, B_g8, trivial⟩ (fun W hS => (st_nil rfl)) rfl ?_
                clear hE a; intro a hE
                refine d_take (v := Value.pointer (some ⟨g4, 2, none⟩)) p5_33_7 ns5_33 (by kernel_rfl) (by kernel_rfl) (fun _ _ _ h => h) hE (wn_some g5_33_2 rfl rfl) rfl ⟨B_g4, B_gx, B_g8, trivial⟩ (fun W hS => (st_fieldAddr Try.underlying41 rfl tS3 rfl rfl)) rfl ?_
                clear hE a; intro a hE
                refine d_take (v := Value.int .i64 s) p5_33_8 ns5_33 (by kernel_rfl) (by kernel_rfl) (fun _ _ _ h => h) hE (wn_some g5_33_2 rfl rfl) rfl ⟨B_g4, B_gx, B_g8, trivial⟩ (fun W hS => (st_load1 tA3 rfl ((blk_cell hS.1 2).trans rfl))) rfl ?_
                clear hE a; intro a hE
                refine d_one (by kernel_rfl) rfl (s_call (xs := [Operand.tmp 109]) (args := [Value.pointer (some ⟨gx, 0, none⟩)]) p5_33_4 hE (wn_some g5_33_2 rfl rfl) rfl rfl Try.func23 cl23 (Sent_any gx m false s _ B_gx) ?_)
                rintro e w41 ⟨rfl, hk⟩
                replace B_g4 := kp_blk B_g4 hk (fun h => h)
                replace B_gx := kp_blk B_gx hk (fun h => h)
                replace B_g8 := kp_blk B_g8 hk (fun h => h)
                replace K_0 := K_0.then_ hk (fun _ h => h.elim)
                refine ⟨_, rfl, ?_⟩
                clear hE a; intro a hE
                refine ⟨⟨B_g4, B_gx, B_g8, trivial⟩, ?_⟩
                refine d_take (v := Value.bool false) p5_33_9 ns5_33 (by kernel_rfl) (by kernel_rfl) (fun _ _ _ h => h) hE (wn_some g5_33_2 rfl rfl) rfl ⟨B_g4, B_gx, B_g8, trivial⟩ (fun W hS => (st_neq (b := false) rfl rfl (by simp))) rfl ?_
                clear hE a; intro a hE
                refine d_take (v := Value.bool false) p5_33_10 ns5_33 (by kernel_rfl) (by kernel_rfl) (fun _ _ _ h => h) hE wn_none rfl ⟨B_g4, B_gx, B_g8, trivial⟩ (fun W hS => (st_pick rfl rfl)) rfl ?_
                clear hE a; intro a hE
                refine d_take (v := Value.bool false) p5_33_11 ns5_33 (by kernel_rfl) (by kernel_rfl) (fun _ _ _ h => h) hE wn_none rfl ⟨B_g4, B_gx, B_g8, trivial⟩ (fun W hS => (st_move rfl)) rfl ?_
                clear hE a; intro a hE
                refine d_take (v := Value.pointer (some ⟨gx, 0, none⟩)) p5_33_12 ns5_33 (by kernel_rfl) (by kernel_rfl) (fun _ _ _ h => h) hE (wn_some g5_33_11 rfl rfl) rfl ⟨B_g4, B_gx, B_g8, trivial⟩ (fun W hS => (st_move rfl)) rfl ?_
                clear hE a; intro a hE
                refine d_take (v := Value.int .i64 65535) p5_33_14 ns5_33 (by kernel_rfl) (by kernel_rfl) (fun _ _ _ h => h) hE (wn_some g5_33_11 rfl rfl) rfl ⟨B_g4, B_gx, B_g8, trivial⟩ (fun W hS => (st_move rfl)) rfl ?_
                clear hE a; intro a hE
                refine d_one (by kernel_rfl) rfl (s_call (xs := [Operand.tmp 118]) (args := [Value.pointer (some ⟨gx, 0, none⟩)]) p5_33_13 hE (wn_some g5_33_11 rfl rfl) rfl rfl Try.func24 cl24 (LCost_false gx m s _ B_gx) ?_)
                rintro e w42 ⟨rfl, hk⟩
                replace B_g4 := kp_blk B_g4 hk (fun h => h)
                replace B_gx := kp_blk B_gx hk (fun h => h)
                replace B_g8 := kp_blk B_g8 hk (fun h => h)
                replace K_0 := K_0.then_ hk (fun _ h => h.elim)
                refine ⟨_, rfl, ?_⟩
                clear hE a; intro a hE
                refine ⟨⟨B_g4, B_gx, B_g8, trivial⟩, ?_⟩
                refine d_take (v := Value.bool false) p5_33_15 ns5_33 (by kernel_rfl) (by kernel_rfl) (fun _ _ _ h => h) hE (wn_some g5_33_11 rfl rfl) rfl ⟨B_g4, B_gx, B_g8, trivial⟩ (fun W hS => (st_neq (b := false) rfl rfl (by decide))) rfl ?_
                clear hE a; intro a hE
                refine d_take (v := Value.bool false) p5_33_16 ns5_33 (by kernel_rfl) (by kernel_rfl) (fun _ _ _ h => h) hE wn_none rfl ⟨B_g4, B_gx, B_g8, trivial⟩ (fun W hS => (st_pick rfl rfl)) rfl ?_
                clear hE a; intro a hE
                refine d_take (v := Value.bool false) p5_33_17 ns5_33 (by kernel_rfl) (by kernel_rfl) (fun _ _ _ h => h) hE wn_none rfl ⟨B_g4, B_gx, B_g8, trivial⟩ (fun W hS => (st_move rfl)) rfl ?_
                clear hE a; intro a hE
                refine d_take (v := Value.pointer (some ⟨g4, 0, none⟩)) p5_33_18 ns5_33 (by kernel_rfl) (by kernel_rfl) (fun _ _ _ h => h) hE (wn_some g5_33_17 rfl rfl) rfl ⟨B_g4, B_gx, B_g8, trivial⟩ (fun W hS => (st_move rfl)) rfl ?_
                clear hE a; intro a hE
                refine d_take (v := Value.pointer (some ⟨g4, 0, none⟩)) p5_33_19 ns5_33 (by kernel_rfl) (by kernel_rfl) (fun _ _ _ h => h) hE (wn_some g5_33_17 rfl rfl) rfl ⟨B_g4, B_gx, B_g8, trivial⟩ (fun W hS => (st_nil rfl)) rfl ?_
                clear hE a; intro a hE
                refine d_take (v := Value.pointer (some ⟨g4, 1, none⟩)) p5_33_20 ns5_33 (by kernel_rfl) (by kernel_rfl) (fun _ _ _ h => h) hE (wn_some g5_33_17 rfl rfl) rfl ⟨B_g4, B_gx, B_g8, trivial⟩ (fun W hS => (st_fieldAddr Try.underlying41 rfl tS4 rfl rfl)) rfl ?_
                clear hE a; intro a hE
                refine d_take (v := Value.bool false) p5_33_21 ns5_33 (by kernel_rfl) (by kernel_rfl) (fun _ _ _ h => h) hE (wn_some g5_33_17 rfl rfl) rfl ⟨B_g4, B_gx, B_g8, trivial⟩ (fun W hS => (st_load1 tA4 rfl ((blk_cell hS.1 1).trans rfl))) rfl ?_
                clear hE a; intro a hE
                refine d_take (v := Value.bool true) p5_33_22 ns5_33 (by kernel_rfl) (by kernel_rfl) (fun _ _ _ h => h) hE (wn_some g5_33_17 rfl rfl) rfl ⟨B_g4, B_gx, B_g8, trivial⟩ (fun W hS => (st_not rfl rfl)) rfl ?_
                clear hE a; intro a hE
                refine d_take (v := Value.bool true) p5_33_23 ns5_33 (by kernel_rfl) (by kernel_rfl) (fun _ _ _ h => h) hE (wn_some g5_33_17 rfl rfl) rfl ⟨B_g4, B_gx, B_g8, trivial⟩ (fun W hS => (st_move rfl)) rfl ?_
                clear hE a; intro a hE
                refine d_take (v := Value.int .i64 8) p5_33_24 ns5_33 (by kernel_rfl) (by kernel_rfl) (fun _ _ _ h => h) hE (wn_some g5_33_23 rfl rfl) rfl ⟨B_g4, B_gx, B_g8, trivial⟩ (fun W hS => (st_move rfl)) rfl ?_
                clear hE a; intro a hE
                refine d_take (v := Value.bool false) p5_33_25 ns5_33 (by kernel_rfl) (by kernel_rfl) (fun _ _ _ h => h) hE (wn_some g5_33_23 rfl rfl) rfl ⟨B_g4, B_gx, B_g8, trivial⟩ (fun W hS => (st_neq (b := false) rfl rfl (by decide))) rfl ?_
                clear hE a; intro a hE
                refine d_take (v := Value.bool false) p5_33_26 ns5_33 (by kernel_rfl) (by kernel_rfl) (fun _ _ _ h => h) hE (wn_some g5_33_17 rfl rfl) rfl ⟨B_g4, B_gx, B_g8, trivial⟩ (fun W hS => (st_pick rfl rfl)) rfl ?_
                clear hE a; intro a hE
                refine d_take (v := Value.bool false) p5_33_27 ns5_33 (by kernel_rfl) (by kernel_rfl) (fun _ _ _ h => h) hE wn_none rfl ⟨B_g4, B_gx, B_g8, trivial⟩ (fun W hS => (st_pick rfl rfl)) rfl ?_
                clear hE a; intro a hE
                refine d_take (v := Value.bool false) p5_33_28 ns5_33 (by kernel_rfl) (by kernel_rfl) (fun _ _ _ h => h) hE wn_none rfl ⟨B_g4, B_gx, B_g8, trivial⟩ (fun W hS => (st_move rfl)) rfl ?_
                clear hE a; intro a hE
                refine d_take (v := Value.pointer (some ⟨g4, 0, none⟩)) p5_33_29 ns5_33 (by kernel_rfl) (by kernel_rfl) (fun _ _ _ h => h) hE (wn_some g5_33_28 rfl rfl) rfl ⟨B_g4, B_gx, B_g8, trivial⟩ (fun W hS => (st_move rfl)) rfl ?_
                clear hE a; intro a hE
                refine d_take (v := Value.pointer (some ⟨g4, 0, none⟩)) p5_33_30 ns5_33 (by kernel_rfl) (by kernel_rfl) (fun _ _ _ h => h) hE (wn_some g5_33_28 rfl rfl) rfl ⟨B_g4, B_gx, B_g8, trivial⟩ (fun W hS => (st_nil rfl)) rfl ?_
                clear hE a; intro a hE
                refine d_take (v := Value.pointer (some ⟨g4, 1, none⟩)) p5_33_31 ns5_33 (by kernel_rfl) (by kernel_rfl) (fun _ _ _ h => h) hE (wn_some g5_33_28 rfl rfl) rfl ⟨B_g4, B_gx, B_g8, trivial⟩ (fun W hS => (st_fieldAddr Try.underlying41 rfl tS4 rfl rfl)) rfl ?_
                clear hE a; intro a hE
                refine d_take (v := Value.bool false) p5_33_32 ns5_33 (by kernel_rfl) (by kernel_rfl) (fun _ _ _ h => h) hE (wn_some g5_33_28 rfl rfl) rfl ⟨B_g4, B_gx, B_g8, trivial⟩ (fun W hS => (st_load1 tA4 rfl ((blk_cell hS.1 1).trans rfl))) rfl ?_
                clear hE a; intro a hE
                refine d_take (v := Value.bool false) p5_33_33 ns5_33 (by kernel_rfl) (by kernel_rfl) (fun _ _ _ h => h) hE (wn_some g5_33_28 rfl rfl) rfl ⟨B_g4, B_gx, B_g8, trivial⟩ (fun W hS => (st_move rfl)) rfl ?_
                clear hE a; intro a hE
                refine d_skip p5_33_34 ns5_33 (by kernel_rfl) (by kernel_rfl) (fun _ _ _ h => h) hE (wn_some g5_33_33 rfl rfl) rfl ⟨B_g4, B_gx, B_g8, trivial⟩ rfl ?_
                clear hE a; intro a hE
                refine d_skip p5_33_35 ns5_33 (by kernel_rfl) (by kernel_rfl) (fun _ _ _ h => h) hE (wn_some g5_33_33 rfl rfl) rfl ⟨B_g4, B_gx, B_g8, trivial⟩ rfl ?_
                clear hE a; intro a hE
                refine d_skip p5_33_36 ns5_33 (by kernel_rfl) (by kernel_rfl) (fun _ _ _ h => h) hE (wn_some g5_33_33 rfl rfl) rfl ⟨B_g4, B_gx, B_g8, trivial⟩ rfl ?_
                clear hE a; intro a hE
                refine d_skip p5_33_37 ns5_33 (by kernel_rfl) (by kernel_rfl) (fun _ _ _ h => h) hE (wn_undef g5_33_36 rfl) rfl ⟨B_g4, B_gx, B_g8, trivial⟩ rfl ?_
                clear hE a; intro a hE
                refine d_skip p5_33_38 ns5_33 (by kernel_rfl) (by kernel_rfl) (fun _ _ _ h => h) hE (wn_undef g5_33_36 rfl) rfl ⟨B_g4, B_gx, B_g8, trivial⟩ rfl ?_
                clear hE a; intro a hE
                refine d_skip p5_33_39 ns5_33 (by kernel_rfl) (by kernel_rfl) (fun _ _ _ h => h) hE (wn_undef g5_33_36 rfl) rfl ⟨B_g4, B_gx, B_g8, trivial⟩ rfl ?_
                clear hE a; intro a hE
                refine d_skip p5_33_40 ns5_33 (by kernel_rfl) (by kernel_rfl) (fun _ _ _ h => h) hE (wn_undef g5_33_36 rfl) rfl ⟨B_g4, B_gx, B_g8, trivial⟩ rfl ?_
                clear hE a; intro a hE
                refine d_skip p5_33_41 ns5_33 (by kernel_rfl) (by kernel_rfl) (fun _ _ _ h => h) hE (wn_undef g5_33_36 rfl) rfl ⟨B_g4, B_gx, B_g8, trivial⟩ rfl ?_
                clear hE a; intro a hE
                refine d_skip p5_33_42 ns5_33 (by kernel_rfl) (by kernel_rfl) (fun _ _ _ h => h) hE (wn_undef g5_33_36 rfl) rfl ⟨B_g4, B_gx, B_g8, trivial⟩ rfl ?_
                clear hE a; intro a hE
                refine d_skip p5_33_43 ns5_33 (by kernel_rfl) (by kernel_rfl) (fun _ _ _ h => h) hE (wn_undef g5_33_36 rfl) rfl ⟨B_g4, B_gx, B_g8, trivial⟩ rfl ?_
                clear hE a; intro a hE
                refine d_skip p5_33_44 ns5_33 (by kernel_rfl) (by kernel_rfl) (fun _ _ _ h => h) hE (wn_some g5_33_33 rfl rfl) rfl ⟨B_g4, B_gx, B_g8, trivial⟩ rfl ?_
                clear hE a; intro a hE
                refine d_take (v := Value.bool false) p5_33_45 ns5_33 (by kernel_rfl) (by kernel_rfl) (fun _ _ _ h => h) hE (wn_some g5_33_28 rfl rfl) rfl ⟨B_g4, B_gx, B_g8, trivial⟩ (fun W hS => (st_pick rfl rfl)) rfl ?_
                clear hE a; intro a hE
                refine d_take (v := Value.bool false) p5_33_46 ns5_33 (by kernel_rfl) (by kernel_rfl) (fun _ _ _ h => h) hE wn_none rfl ⟨B_g4, B_gx, B_g8, trivial⟩ (fun W hS => (st_pick rfl rfl)) rfl ?_
                clear hE a; intro a hE
                refine d_end (by kernel_rfl) ?_
                refine x_norm ?_
                refine c_cond (t := false) hE rfl ?_
                refine wp_skip ?_
                refine x_normB ?_
                refine x_norm ?_
                refine c_regL R5_5_l ?_
                refine p_cons (s_still p5_5_0 hE wn_none rfl (st_move rfl) ?_)
                clear hE a; intro a hE
                refine p_cons (s_still p5_5_1 hE wn_none rfl (st_add (z := (k : Int) + 1) rfl rfl (wr_i64 _ (by omega) (by omega))) ?_)
                clear hE a; intro a hE
                refine p_cons (s_still p5_5_2 hE wn_none rfl (st_assign rfl) ?_)
                clear hE a; intro a hE
                refine p_nil ?_
                refine x_norm ?_
                have hs9 : 0 ≤ s ∧ s ≤ 1099511627776 := hs
                have hm9 : false = true → right m := fun h => by cases h
                exact ⟨k + 1, by omega, gx, m, false, s, En.sub hE ⟨rfl, rfl, rfl, rfl, trivial⟩, by omega, hm9, hs9, B_g4, B_gx, z_0_gx, n_g4_gx, K_0⟩
        ·
          refine p_cons (s_still (v := Value.bool false) p5_14_0 hE wn_none rfl (st_eql rfl rfl (decide_eq_false hc12)) ?_)
          clear hE a; intro a hE
          refine p_cons (s_still p5_14_1 hE wn_none rfl (st_assign rfl) ?_)
          clear hE a; intro a hE
          refine p_nil ?_
          refine x_norm ?_
          refine c_cond (t := false) hE rfl ?_
          refine c_reg R5_20_l ?_
          rcases Decidable.em (((kd % 18446744073709551616) % 4) = 1) with hc43 | hc43
          ·
            refine p_cons (s_still (v := Value.bool true) p5_20_0 hE wn_none rfl (st_eql rfl rfl (decide_eq_true hc43)) ?_)
            clear hE a; intro a hE
            refine p_cons (s_still p5_20_1 hE wn_none rfl (st_assign rfl) ?_)
            clear hE a; intro a hE
            refine p_nil ?_
            refine x_norm ?_
            refine c_cond (t := true) hE rfl ?_
            refine c_reg R5_21_l ?_
            refine p_cons (s_still p5_21_0 hE wn_none rfl (st_move rfl) ?_)
            clear hE a; intro a hE
            refine p_cons (s_call (xs := [Operand.tmp 67]) (args := [Value.pointer (some ⟨gx, 0, none⟩)]) p5_21_1 hE wn_none rfl rfl Try.func19 cl19 (Fail_ok gx m is s hm hs _ B_gx) ?_)
            rintro e w44 ⟨rfl, B_gx', hk⟩
            replace B_g4 := kp_blk B_g4 hk n_g4_gx
            replace B_g8 := kp_blk B_g8 hk (Ne.symm n_gx_g8)
            replace K_0 := K_0.then_ hk (fun k h => by rw [show k = gx from h]; exact Or.inr z_0_gx)
            replace B_gx : w44.heap[gx]? = some (.cells #[Value.float .f64 (moveF is m 16), Value.bool true, Value.int .i64 (senF s (16 : Int))] 38 (0, 0)) := B_gx'
            clear B_gx'
            refine ⟨_, rfl, ?_⟩
            clear hE a; intro a hE
            refine p_nil ?_
            refine x_norm ?_
            refine c_regL R5_22_l ?_
            refine p_cons (s_still p5_22_0 hE wn_none rfl (st_move rfl) ?_)
            clear hE a; intro a hE
            refine p_cons (s_call (xs := [Operand.tmp 69, Operand.const (Value.int IntKind.i64 16)]) (args := [Value.pointer (some ⟨g4, 0, none⟩), Value.int .i64 16]) p5_22_1 hE wn_none rfl rfl Try.func18 cl18 (rsample g4 m 16 is s hm (by decide) (by decide) hs _ B_g4) ?_)
            rintro e w45 ⟨rfl, B_g4', hk⟩
            replace B_gx := kp_blk B_gx hk (Ne.symm n_g4_gx)
            replace B_g8 := kp_blk B_g8 hk (Ne.symm n_g4_g8)
            replace K_0 := K_0.then_ hk (fun k h => by rw [show k = g4 from h]; exact Or.inr z_0_g4)
            replace B_g4 : w45.heap[g4]? = some (.cells #[Value.float .f64 (moveF is m 16), Value.bool true, Value.int .i64 (senF s (16 : Int))] 41 (0, 0)) := B_g4'
            clear B_g4'
            refine ⟨_, rfl, ?_⟩
            clear hE a; intro a hE
            refine p_nil ?_
            refine x_normB ?_
            refine x_norm ?_
            have hmR : right (moveF is m 16) := moveF_right hm (by decide) (by decide)
            refine c_reg R5_29_l ?_
            refine p_cons (s_still p5_29_0 hE wn_none rfl (st_move rfl) ?_)
            clear hE a; intro a hE
            refine p_cons (s_call (xs := [Operand.tmp 93]) (args := [Value.pointer (some ⟨gx, 0, none⟩)]) p5_29_1 hE wn_none rfl rfl Try.func22 cl22 (Mean_true gx (moveF is m 16) (senF s (16 : Int)) _ B_gx) ?_)
            rintro e w46 ⟨rfl, hk⟩
            replace B_g4 := kp_blk B_g4 hk (fun h => h)
            replace B_gx := kp_blk B_gx hk (fun h => h)
            replace B_g8 := kp_blk B_g8 hk (fun h => h)
            replace K_0 := K_0.then_ hk (fun _ h => h.elim)
            refine ⟨_, rfl, ?_⟩
            clear hE a; intro a hE
            refine p_cons (s_still p5_29_2 hE wn_none rfl (st_move rfl) ?_)
            clear hE a; intro a hE
            refine p_cons (s_still p5_29_3 hE wn_none rfl (st_extract rfl rfl) ?_)
            clear hE a; intro a hE
            refine p_cons (s_still p5_29_4 hE wn_none rfl (st_extract rfl rfl) ?_)
            clear hE a; intro a hE
            refine p_cons (s_still p5_29_5 hE wn_none rfl (st_assign rfl) ?_)
            clear hE a; intro a hE
            refine p_cons (s_still p5_29_6 hE wn_none rfl (st_assign rfl) ?_)
            clear hE a; intro a hE
            refine p_nil ?_
            refine x_norm ?_
            refine c_reg R5_30_l ?_
            refine p_cons (s_still p5_30_0 hE wn_none rfl (st_assign rfl) ?_)
            clear hE a; intro a hE
            refine p_nil ?_
            refine x_norm ?_
            refine wp_seq ?_
            refine c_reg R5_31_l ?_
            refine p_cons (s_still p5_31_0 hE wn_none rfl (st_move rfl) ?_)
            clear hE a; intro a hE
            refine p_cons (s_still p5_31_1 hE wn_none rfl (st_nil rfl) ?_)
            clear hE a; intro a hE
            refine p_cons (s_still p5_31_2 hE wn_none rfl (st_fieldAddr Try.underlying41 rfl tS4 rfl rfl) ?_)
            clear hE a; intro a hE
            refine p_cons (s_still p5_31_3 hE wn_none rfl (st_load1 tA4 rfl ((blk_cell B_g4 1).trans rfl)) ?_)
            clear hE a; intro a hE
            refine p_nil ?_
            refine x_norm ?_
            refine c_cond (t := true) hE rfl ?_
            refine c_regL R5_32_l ?_
            refine p_cons (s_still p5_32_0 hE wn_none rfl (st_move rfl) ?_)
            clear hE a; intro a hE
            refine p_cons (s_still p5_32_1 hE wn_none rfl (st_nil rfl) ?_)
            clear hE a; intro a hE
            refine p_cons (s_still p5_32_2 hE wn_none rfl (st_fieldAddr Try.underlying41 rfl tS22 rfl rfl) ?_)
            clear hE a; intro a hE
            refine p_cons (s_still p5_32_3 hE wn_none rfl (st_load1 tA22 rfl ((blk_cell B_g4 0).trans rfl)) ?_)
            clear hE a; intro a hE
            refine p_cons (s_call (xs := [Operand.tmp 104]) (args := [Value.float .f64 (moveF is m 16)]) p5_32_4 hE wn_none rfl rfl Try.func15 cl15 (rcost_any (moveF is m 16) hmR _ rfl _) ?_)
            rintro e w47 ⟨rfl, hk⟩
            replace B_g4 := kp_blk B_g4 hk (fun h => h)
            replace B_gx := kp_blk B_gx hk (fun h => h)
            replace B_g8 := kp_blk B_g8 hk (fun h => h)
            replace K_0 := K_0.then_ hk (fun _ h => h.elim)
            refine ⟨_, rfl, ?_⟩
            clear hE a; intro a hE
            refine p_cons (s_still p5_32_5 hE wn_none rfl (st_assign rfl) ?_)
            clear hE a; intro a hE
            refine p_nil ?_
            refine x_norm ?_
            refine c_drawS (S := fun W => W.heap[g4]? = some (.cells #[Value.float .f64 (moveF is m 16), Value.bool true, Value.int .i64 (senF s (16 : Int))] 41 (0, 0)) ∧ W.heap[gx]? = some (.cells #[Value.float .f64 (moveF is m 16), Value.bool true, Value.int .i64 (senF s (16 : Int))] 38 (0, 0)) ∧ W.heap[g8]? = some (.cells #[Value.int .i64 kd, Value.int .i64 nn, Value.float .f64 fx] 43 (0, 0)) ∧ True) rfl rfl (listed := #[false, false, false, false, false, false, false, false, false, false, false, false, false, false, false, false, false, false, false, false, false, false, false, false, false, false, false, false, false, false, false, false, false, false, false, false, false, false, false, false, false, false, false, false, false, false, false]) rfl ?_
            intro w48 hh hk
            replace B_g4 := kp_blk B_g4 hk (fun h => h)
            replace B_gx := kp_blk B_gx hk (fun h => h)
            replace B_g8 := kp_blk B_g8 hk (fun h => h)
            replace K_0 := K_0.then_ hk (fun _ h => h.elim)
            clear hh hk
            refine d_take (v := Value.bool true) p5_33_0 ns5_33 (by kernel_rfl) (by kernel_rfl) (fun _ _ _ h => h) hE wn_none rfl ⟨B_g4, B_gx, B_g8, trivial⟩ (fun W hS => (st_move rfl)) rfl ?_
            clear hE a; intro a hE
            refine d_take (v := Value.bool false) p5_33_1 ns5_33 (by kernel_rfl) (by kernel_rfl) (fun _ _ _ h => h) hE wn_none rfl ⟨B_g4, B_gx, B_g8, trivial⟩ (fun W hS => (st_not rfl rfl)) rfl ?_
            clear hE a; intro a hE
            refine d_take (v := Value.bool false) p5_33_2 ns5_33 (by kernel_rfl) (by kernel_rfl) (fun _ _ _ h => h) hE wn_none rfl ⟨B_g4, B_gx, B_g8, trivial⟩ (fun W hS => (st_move rfl)) rfl ?_
            clear hE a; intro a hE
            refine d_take (v := Value.pointer (some ⟨gx, 0, none⟩)) p5_33_3 ns5_33 (by kernel_rfl) (by kernel_rfl) (fun _ _ _ h => h) hE (wn_some g5_33_2 rfl rfl) rfl ⟨B_g4, B_gx, B_g8, trivial⟩ (fun W hS => (st_move rfl)) rfl ?_
            clear hE a; intro a hE
            refine d_take (v := Value.pointer (some ⟨g4, 0, none⟩)) p5_33_5 ns5_33 (by kernel_rfl) (by kernel_rfl) (fun _ _ _ h => h) hE (wn_some g5_33_2 rfl rfl) rfl ⟨B_g4, B_gx, B_g8, trivial⟩ (fun W hS => (st_move rfl)) rfl ?_
            clear hE a; intro a hE
            refine d_take (v := Value.pointer (some ⟨g4, 0, none⟩)) p5_33_6 ns5_33 (by kernel_rfl) (by kernel_rfl) (fun _ _ _ h => h) hE (wn_some g5_33_2 rfl rfl) rfl ⟨B_g4, B_gx, B_g8, trivial⟩ (fun W hS => (st_nil rfl)) rfl ?_
            clear hE a; intro a hE
            refine d_take (v := Value.pointer (some ⟨g4, 2, none⟩)) p5_33_7 ns5_33 (by kernel_rfl) (by kernel_rfl) (fun _ _ _ h => h) hE (wn_some g5_33_2 rfl rfl) rfl ⟨B_g4, B_gx, B_g8, trivial⟩ (fun W hS => (st_fieldAddr Try.underlying41 rfl tS3 rfl rfl)) rfl ?_
            clear hE a; intro a hE
            refine d_take (v := Value.int .i64 (senF s (16 : Int))) p5_33_8 ns5_33 (by kernel_rfl) (by kernel_rfl) (fun _ _ _ h => h) hE (wn_some g5_33_2 rfl rfl) rfl ⟨B_g4, B_gx, B_g8, trivial⟩ (fun W hS => (st_load1 tA3 rfl ((blk_cell hS.1 2).trans rfl))) rfl ?_
            clear hE a; intro a hE
            refine d_one (by kernel_rfl) rfl (s_call (xs := [Operand.tmp 109]) (args := [Value.pointer (some ⟨gx, 0, none⟩)]) p5_33_4 hE (wn_some g5_33_2 rfl rfl) rfl rfl Try.func23 cl23 (Sent_any gx (moveF is m 16) true (senF s (16 : Int)) _ B_gx) ?_)
            rintro e w49 ⟨rfl, hk⟩
            replace B_g4 := kp_blk B_g4 hk (fun h => h)
            replace B_gx := kp_blk B_gx hk (fun h => h)
            replace B_g8 := kp_blk B_g8 hk (fun h => h)
            replace K_0 := K_0.then_ hk (fun _ h => h.elim)
            refine ⟨_, rfl, ?_⟩
            clear hE a; intro a hE
            refine ⟨⟨B_g4, B_gx, B_g8, trivial⟩, ?_⟩
            refine d_take (v := Value.bool false) p5_33_9 ns5_33 (by kernel_rfl) (by kernel_rfl) (fun _ _ _ h => h) hE (wn_some g5_33_2 rfl rfl) rfl ⟨B_g4, B_gx, B_g8, trivial⟩ (fun W hS => (st_neq (b := false) rfl rfl (by simp))) rfl ?_
            clear hE a; intro a hE
            refine d_take (v := Value.bool false) p5_33_10 ns5_33 (by kernel_rfl) (by kernel_rfl) (fun _ _ _ h => h) hE wn_none rfl ⟨B_g4, B_gx, B_g8, trivial⟩ (fun W hS => (st_pick rfl rfl)) rfl ?_
            clear hE a; intro a hE
            refine d_take (v := Value.bool false) p5_33_11 ns5_33 (by kernel_rfl) (by kernel_rfl) (fun _ _ _ h => h) hE wn_none rfl ⟨B_g4, B_gx, B_g8, trivial⟩ (fun W hS => (st_move rfl)) rfl ?_
            clear hE a; intro a hE
            refine d_take (v := Value.pointer (some ⟨gx, 0, none⟩)) p5_33_12 ns5_33 (by kernel_rfl) (by kernel_rfl) (fun _ _ _ h => h) hE (wn_some g5_33_11 rfl rfl) rfl ⟨B_g4, B_gx, B_g8, trivial⟩ (fun W hS => (st_move rfl)) rfl ?_
            clear hE a; intro a hE
            refine d_take (v := Value.int .i64 (costV (moveF is m 16))) p5_33_14 ns5_33 (by kernel_rfl) (by kernel_rfl) (fun _ _ _ h => h) hE (wn_some g5_33_11 rfl rfl) rfl ⟨B_g4, B_gx, B_g8, trivial⟩ (fun W hS => (st_move rfl)) rfl ?_
            clear hE a; intro a hE
            refine d_one (by kernel_rfl) rfl (s_call (xs := [Operand.tmp 118]) (args := [Value.pointer (some ⟨gx, 0, none⟩)]) p5_33_13 hE (wn_some g5_33_11 rfl rfl) rfl rfl Try.func24 cl24 (LCost_true gx (moveF is m 16) (senF s (16 : Int)) hmR _ rfl _ B_gx) ?_)
            rintro e w50 ⟨rfl, hk⟩
            replace B_g4 := kp_blk B_g4 hk (fun h => h)
            replace B_gx := kp_blk B_gx hk (fun h => h)
            replace B_g8 := kp_blk B_g8 hk (fun h => h)
            replace K_0 := K_0.then_ hk (fun _ h => h.elim)
            refine ⟨_, rfl, ?_⟩
            clear hE a; intro a hE
            refine ⟨⟨B_g4, B_gx, B_g8, trivial⟩, ?_⟩
            refine d_take (v := Value.bool false) p5_33_15 ns5_33 (by kernel_rfl) (by kernel_rfl) (fun _ _ _ h => h) hE (wn_some g5_33_11 rfl rfl) rfl ⟨B_g4, B_gx, B_g8, trivial⟩ (fun W hS => (st_neq (b := false) rfl rfl (by simp))) rfl ?_
            clear hE a; intro a hE
            refine d_take (v := Value.bool false) p5_33_16 ns5_33 (by kernel_rfl) (by kernel_rfl) (fun _ _ _ h => h) hE wn_none rfl ⟨B_g4, B_gx, B_g8, trivial⟩ (fun W hS => (st_pick rfl rfl)) rfl ?_
            clear hE a; intro a hE
            refine d_take (v := Value.bool false) p5_33_17 ns5_33 (by kernel_rfl) (by kernel_rfl) (fun _ _ _ h => h) hE wn_none rfl ⟨B_g4, B_gx, B_g8, trivial⟩ (fun W hS => (st_move rfl)) rfl ?_
            clear hE a; intro a hE
            refine d_take (v := Value.pointer (some ⟨g4, 0, none⟩)) p5_33_18 ns5_33 (by kernel_rfl) (by kernel_rfl) (fun _ _ _ h => h) hE (wn_some g5_33_17 rfl rfl) rfl ⟨B_g4, B_gx, B_g8, trivial⟩ (fun W hS => (st_move rfl)) rfl ?_
            clear hE a; intro a hE
            refine d_take (v := Value.pointer (some ⟨g4, 0, none⟩)) p5_33_19 ns5_33 (by kernel_rfl) (by kernel_rfl) (fun _ _ _ h => h) hE (wn_some g5_33_17 rfl rfl) rfl ⟨B_g4, B_gx, B_g8, trivial⟩ (fun W hS => (st_nil rfl)) rfl ?_
            clear hE a; intro a hE
            refine d_take (v := Value.pointer (some ⟨g4, 1, none⟩)) p5_33_20 ns5_33 (by kernel_rfl) (by kernel_rfl) (fun _ _ _ h => h) hE (wn_some g5_33_17 rfl rfl) rfl ⟨B_g4, B_gx, B_g8, trivial⟩ (fun W hS => (st_fieldAddr Try.underlying41 rfl tS4 rfl rfl)) rfl ?_
            clear hE a; intro a hE
            refine d_take (v := Value.bool true) p5_33_21 ns5_33 (by kernel_rfl) (by kernel_rfl) (fun _ _ _ h => h) hE (wn_some g5_33_17 rfl rfl) rfl ⟨B_g4, B_gx, B_g8, trivial⟩ (fun W hS => (st_load1 tA4 rfl ((blk_cell hS.1 1).trans rfl))) rfl ?_
            clear hE a; intro a hE
            refine d_take (v := Value.bool false) p5_33_22 ns5_33 (by kernel_rfl) (by kernel_rfl) (fun _ _ _ h => h) hE (wn_some g5_33_17 rfl rfl) rfl ⟨B_g4, B_gx, B_g8, trivial⟩ (fun W hS => (st_not rfl rfl)) rfl ?_
            clear hE a; intro a hE
            refine d_take (v := Value.bool false) p5_33_23 ns5_33 (by kernel_rfl) (by kernel_rfl) (fun _ _ _ h => h) hE (wn_some g5_33_17 rfl rfl) rfl ⟨B_g4, B_gx, B_g8, trivial⟩ (fun W hS => (st_move rfl)) rfl ?_
            clear hE a; intro a hE
            refine d_skip p5_33_24 ns5_33 (by kernel_rfl) (by kernel_rfl) (fun _ _ _ h => h) hE (wn_some g5_33_23 rfl rfl) rfl ⟨B_g4, B_gx, B_g8, trivial⟩ rfl ?_
            clear hE a; intro a hE
            refine d_skip p5_33_25 ns5_33 (by kernel_rfl) (by kernel_rfl) (fun _ _ _ h => h) hE (wn_some g5_33_23 rfl rfl) rfl ⟨B_g4, B_gx, B_g8, trivial⟩ rfl ?_
            clear hE a; intro a hE
            refine d_take (v := Value.bool false) p5_33_26 ns5_33 (by kernel_rfl) (by kernel_rfl) (fun _ _ _ h => h) hE (wn_some g5_33_17 rfl rfl) rfl ⟨B_g4, B_gx, B_g8, trivial⟩ (fun W hS => (st_pick rfl rfl)) rfl ?_
            clear hE a; intro a hE
            refine d_take (v := Value.bool false) p5_33_27 ns5_33 (by kernel_rfl) (by kernel_rfl) (fun _ _ _ h => h) hE wn_none rfl ⟨B_g4, B_gx, B_g8, trivial⟩ (fun W hS => (st_pick rfl rfl)) rfl ?_
            clear hE a; intro a hE
            refine d_take (v := Value.bool false) p5_33_28 ns5_33 (by kernel_rfl) (by kernel_rfl) (fun _ _ _ h => h) hE wn_none rfl ⟨B_g4, B_gx, B_g8, trivial⟩ (fun W hS => (st_move rfl)) rfl ?_
            clear hE a; intro a hE
            refine d_take (v := Value.pointer (some ⟨g4, 0, none⟩)) p5_33_29 ns5_33 (by kernel_rfl) (by kernel_rfl) (fun _ _ _ h => h) hE (wn_some g5_33_28 rfl rfl) rfl ⟨B_g4, B_gx, B_g8, trivial⟩ (fun W hS => (st_move rfl)) rfl ?_
            clear hE a; intro a hE
            refine d_take (v := Value.pointer (some ⟨g4, 0, none⟩)) p5_33_30 ns5_33 (by kernel_rfl) (by kernel_rfl) (fun _ _ _ h => h) hE (wn_some g5_33_28 rfl rfl) rfl ⟨B_g4, B_gx, B_g8, trivial⟩ (fun W hS => (st_nil rfl)) rfl ?_
            clear hE a; intro a hE
            refine d_take (v := Value.pointer (some ⟨g4, 1, none⟩)) p5_33_31 ns5_33 (by kernel_rfl) (by kernel_rfl) (fun _ _ _ h => h) hE (wn_some g5_33_28 rfl rfl) rfl ⟨B_g4, B_gx, B_g8, trivial⟩ (fun W hS => (st_fieldAddr Try.underlying41 rfl tS4 rfl rfl)) rfl ?_
            clear hE a; intro a hE
            refine d_take (v := Value.bool true) p5_33_32 ns5_33 (by kernel_rfl) (by kernel_rfl) (fun _ _ _ h => h) hE (wn_some g5_33_28 rfl rfl) rfl ⟨B_g4, B_gx, B_g8, trivial⟩ (fun W hS => (st_load1 tA4 rfl ((blk_cell hS.1 1).trans rfl))) rfl ?_
            clear hE a; intro a hE
            refine d_take (v := Value.bool true) p5_33_33 ns5_33 (by kernel_rfl) (by kernel_rfl) (fun _ _ _ h => h) hE (wn_some g5_33_28 rfl rfl) rfl ⟨B_g4, B_gx, B_g8, trivial⟩ (fun W hS => (st_move rfl)) rfl ?_
            clear hE a; intro a hE
            refine d_take (v := Value.int .i64 0) p5_33_34 ns5_33 (by kernel_rfl) (by kernel_rfl) (fun _ _ _ h => h) hE (wn_some g5_33_33 rfl rfl) rfl ⟨B_g4, B_gx, B_g8, trivial⟩ (fun W hS => (st_move rfl)) rfl ?_
            clear hE a; intro a hE
            refine d_take (v := Value.bool false) p5_33_35 ns5_33 (by kernel_rfl) (by kernel_rfl) (fun _ _ _ h => h) hE (wn_some g5_33_33 rfl rfl) rfl ⟨B_g4, B_gx, B_g8, trivial⟩ (fun W hS => (st_neq (b := false) rfl rfl (by decide))) rfl ?_
            clear hE a; intro a hE
            refine d_take (v := Value.bool false) p5_33_36 ns5_33 (by kernel_rfl) (by kernel_rfl) (fun _ _ _ h => h) hE (wn_some g5_33_33 rfl rfl) rfl ⟨B_g4, B_gx, B_g8, trivial⟩ (fun W hS => (st_move rfl)) rfl ?_
            clear hE a; intro a hE
            refine d_take (v := Value.float .f64 (moveF is m 16)) p5_33_37 ns5_33 (by kernel_rfl) (by kernel_rfl) (fun _ _ _ h => h) hE (wn_some g5_33_36 rfl rfl) rfl ⟨B_g4, B_gx, B_g8, trivial⟩ (fun W hS => (st_move rfl)) rfl ?_
            clear hE a; intro a hE
            refine d_take (v := Value.pointer (some ⟨g4, 0, none⟩)) p5_33_38 ns5_33 (by kernel_rfl) (by kernel_rfl) (fun _ _ _ h => h) hE (wn_some g5_33_36 rfl rfl) rfl ⟨B_g4, B_gx, B_g8, trivial⟩ (fun W hS => (st_move rfl)) rfl ?_
            clear hE a; intro a hE
            refine d_take (v := Value.pointer (some ⟨g4, 0, none⟩)) p5_33_39 ns5_33 (by kernel_rfl) (by kernel_rfl) (fun _ _ _ h => h) hE (wn_some g5_33_36 rfl rfl) rfl ⟨B_g4, B_gx, B_g8, trivial⟩ (fun W hS => (st_nil rfl)) rfl ?_
            clear hE a; intro a hE
            refine d_take (v := Value.pointer (some ⟨g4, 0, none⟩)) p5_33_40 ns5_33 (by kernel_rfl) (by kernel_rfl) (fun _ _ _ h => h) hE (wn_some g5_33_36 rfl rfl) rfl ⟨B_g4, B_gx, B_g8, trivial⟩ (fun W hS => (st_fieldAddr Try.underlying41 rfl tS22 rfl rfl)) rfl ?_
            clear hE a; intro a hE
            refine d_take (v := Value.float .f64 (moveF is m 16)) p5_33_41 ns5_33 (by kernel_rfl) (by kernel_rfl) (fun _ _ _ h => h) hE (wn_some g5_33_36 rfl rfl) rfl ⟨B_g4, B_gx, B_g8, trivial⟩ (fun W hS => (st_load1 tA22 rfl ((blk_cell hS.1 0).trans rfl))) rfl ?_
            clear hE a; intro a hE
            refine d_one (by kernel_rfl) rfl (s_call (xs := [Operand.tmp 143, Operand.tmp 147]) (args := [Value.float .f64 (moveF is m 16), Value.float .f64 (moveF is m 16)]) p5_33_42 hE (wn_some g5_33_36 rfl rfl) rfl rfl Try.func25 cl25 (same_self (moveF is m 16) _) ?_)
            rintro e w51 ⟨rfl, hk⟩
            replace B_g4 := kp_blk B_g4 hk (fun h => h)
            replace B_gx := kp_blk B_gx hk (fun h => h)
            replace B_g8 := kp_blk B_g8 hk (fun h => h)
            replace K_0 := K_0.then_ hk (fun _ h => h.elim)
            refine ⟨_, rfl, ?_⟩
            clear hE a; intro a hE
            refine ⟨⟨B_g4, B_gx, B_g8, trivial⟩, ?_⟩
            refine d_take (v := Value.bool false) p5_33_43 ns5_33 (by kernel_rfl) (by kernel_rfl) (fun _ _ _ h => h) hE (wn_some g5_33_36 rfl rfl) rfl ⟨B_g4, B_gx, B_g8, trivial⟩ (fun W hS => (st_not rfl rfl)) rfl ?_
            clear hE a; intro a hE
            refine d_take (v := Value.bool false) p5_33_44 ns5_33 (by kernel_rfl) (by kernel_rfl) (fun _ _ _ h => h) hE (wn_some g5_33_33 rfl rfl) rfl ⟨B_g4, B_gx, B_g8, trivial⟩ (fun W hS => (st_pick rfl rfl)) rfl ?_
            clear hE a; intro a hE
            refine d_take (v := Value.bool false) p5_33_45 ns5_33 (by kernel_rfl) (by kernel_rfl) (fun _ _ _ h => h) hE (wn_some g5_33_28 rfl rfl) rfl ⟨B_g4, B_gx, B_g8, trivial⟩ (fun W hS => (st_pick rfl rfl)) rfl ?_
            clear hE a; intro a hE
            refine d_take (v := Value.bool false) p5_33_46 ns5_33 (by kernel_rfl) (by kernel_rfl) (fun _ _ _ h => h) hE wn_none rfl ⟨B_g4, B_gx, B_g8, trivial⟩ (fun W hS => (st_pick rfl rfl)) rfl ?_
            clear hE a; intro a hE
            refine d_end (by kernel_rfl) ?_
            refine x_norm ?_
            refine c_cond (t := false) hE rfl ?_
            refine wp_skip ?_
            refine x_normB ?_
            refine x_norm ?_
            refine c_regL R5_5_l ?_
            refine p_cons (s_still p5_5_0 hE wn_none rfl (st_move rfl) ?_)
            clear hE a; intro a hE
            refine p_cons (s_still p5_5_1 hE wn_none rfl (st_add (z := (k : Int) + 1) rfl rfl (wr_i64 _ (by omega) (by omega))) ?_)
            clear hE a; intro a hE
            refine p_cons (s_still p5_5_2 hE wn_none rfl (st_assign rfl) ?_)
            clear hE a; intro a hE
            refine p_nil ?_
            refine x_norm ?_
            have hs9 : 0 ≤ (senF s (16 : Int)) ∧ (senF s (16 : Int)) ≤ 1099511627776 := (by unfold senF; split <;> omega)
            have hm9 : true = true → right (moveF is m 16) := fun _ => hmR
            exact ⟨k + 1, by omega, gx, (moveF is m 16), true, (senF s (16 : Int)), En.sub hE ⟨rfl, rfl, rfl, rfl, trivial⟩, by omega, hm9, hs9, B_g4, B_gx, z_0_gx, n_g4_gx, K_0⟩
          ·
            refine p_cons (s_still (v := Value.bool false) p5_20_0 hE wn_none rfl (st_eql rfl rfl (decide_eq_false hc43)) ?_)
            clear hE a; intro a hE
            refine p_cons (s_still p5_20_1 hE wn_none rfl (st_assign rfl) ?_)
            clear hE a; intro a hE
            refine p_nil ?_
            refine x_norm ?_
            refine c_cond (t := false) hE rfl ?_
            refine c_reg R5_23_l ?_
            rcases Decidable.em (((kd % 18446744073709551616) % 4) = 2) with hc52 | hc52
            ·
              refine p_cons (s_still (v := Value.bool true) p5_23_0 hE wn_none rfl (st_eql rfl rfl (decide_eq_true hc52)) ?_)
              clear hE a; intro a hE
              refine p_cons (s_still p5_23_1 hE wn_none rfl (st_assign rfl) ?_)
              clear hE a; intro a hE
              refine p_nil ?_
              refine x_norm ?_
              refine c_cond (t := true) hE rfl ?_
              rcases Decidable.em (right fx) with hR_fx | hR_fx
              ·
                refine c_reg R5_24_l ?_
                refine p_cons (s_still p5_24_0 hE wn_none rfl (st_move rfl) ?_)
                clear hE a; intro a hE
                refine p_cons (s_still p5_24_1 hE wn_none rfl (st_fieldAddr Try.underlying43 rfl tS22 rfl rfl) ?_)
                clear hE a; intro a hE
                refine p_cons (s_still p5_24_2 hE wn_none rfl (st_load1 tA22 rfl ((blk_cell B_g8 2).trans rfl)) ?_)
                clear hE a; intro a hE
                refine p_cons (s_call (xs := [Operand.tmp 73, Operand.tmp 75]) (args := [Value.pointer (some ⟨gx, 0, none⟩), Value.float .f64 fx]) p5_24_3 hE wn_none rfl rfl Try.func20 cl20 (Set_ok gx m fx is s (by omega) _ B_gx hR_fx) ?_)
                rintro e w53 ⟨rfl, B_gx', hk⟩
                replace B_g4 := kp_blk B_g4 hk n_g4_gx
                replace B_g8 := kp_blk B_g8 hk (Ne.symm n_gx_g8)
                replace K_0 := K_0.then_ hk (fun k h => by rw [show k = gx from h]; exact Or.inr z_0_gx)
                replace B_gx : w53.heap[gx]? = some (.cells #[Value.float .f64 fx, Value.bool true, Value.int .i64 s] 38 (0, 0)) := B_gx'
                clear B_gx'
                refine ⟨_, rfl, ?_⟩
                clear hE a; intro a hE
                refine p_cons (s_still p5_24_4 hE wn_none rfl (st_assign rfl) ?_)
                clear hE a; intro a hE
                refine p_nil ?_
                refine x_norm ?_
                refine c_reg R5_25_l ?_
                refine p_cons (s_still p5_25_0 hE wn_none rfl (st_fieldAddr Try.underlying43 rfl tS22 rfl rfl) ?_)
                clear hE a; intro a hE
                refine p_cons (s_still p5_25_1 hE wn_none rfl (st_load1 tA22 rfl ((blk_cell B_g8 2).trans rfl)) ?_)
                clear hE a; intro a hE
                refine p_cons (s_call (xs := [Operand.tmp 78]) (args := [Value.float .f64 fx]) p5_25_2 hE wn_none rfl rfl Try.func14 cl14 (rright_any fx (by omega) true (decide_eq_true hR_fx) _) ?_)
                rintro e w54 ⟨rfl, hk⟩
                replace B_g4 := kp_blk B_g4 hk (fun h => h)
                replace B_gx := kp_blk B_gx hk (fun h => h)
                replace B_g8 := kp_blk B_g8 hk (fun h => h)
                replace K_0 := K_0.then_ hk (fun _ h => h.elim)
                refine ⟨_, rfl, ?_⟩
                clear hE a; intro a hE
                refine p_nil ?_
                refine x_norm ?_
                refine c_cond (t := true) hE rfl ?_
                refine c_reg R5_26_l ?_
                refine p_cons (s_still p5_26_0 hE wn_none rfl (st_move rfl) ?_)
                clear hE a; intro a hE
                refine p_cons (s_still p5_26_1 hE wn_none rfl (st_eql (b := true) rfl rfl (by decide)) ?_)
                clear hE a; intro a hE
                refine p_cons (s_still p5_26_2 hE wn_none rfl (st_assign rfl) ?_)
                clear hE a; intro a hE
                refine p_nil ?_
                refine x_norm ?_
                refine c_regL R5_27_l ?_
                refine p_cons (s_still p5_27_0 hE wn_none rfl (st_move rfl) ?_)
                clear hE a; intro a hE
                refine p_cons (s_still p5_27_1 hE wn_none rfl (st_move rfl) ?_)
                clear hE a; intro a hE
                refine p_cons (s_still p5_27_2 hE wn_none rfl (st_fieldAddr Try.underlying43 rfl tS22 rfl rfl) ?_)
                clear hE a; intro a hE
                refine p_cons (s_still p5_27_3 hE wn_none rfl (st_load1 tA22 rfl ((blk_cell B_g8 2).trans rfl)) ?_)
                clear hE a; intro a hE
                refine p_cons (s_still p5_27_4 hE wn_none rfl (st_nil rfl) ?_)
                clear hE a; intro a hE
                refine p_cons (s_still p5_27_5 hE wn_none rfl (st_fieldAddr Try.underlying41 rfl tS22 rfl rfl) ?_)
                clear hE a; intro a hE
                refine p_cons (s_store (off := 0) (k := 1) (cs' := #[Value.float .f64 fx, Value.bool is, Value.int .i64 s]) p5_27_6 hE wn_none tS22 rfl rfl rfl rfl B_g4 (Nat.le_of_ble_eq_true rfl) rfl ?_)
                intro w55 B_g4' hk
                replace B_gx := kp_blk B_gx hk (Ne.symm n_g4_gx)
                replace B_g8 := kp_blk B_g8 hk (Ne.symm n_g4_g8)
                replace K_0 := K_0.then_ hk (fun k h => by rw [show k = g4 from h]; exact Or.inr z_0_g4)
                replace B_g4 := B_g4'
                clear hk
                refine p_cons (s_still p5_27_7 hE wn_none rfl (st_nil rfl) ?_)
                clear hE a; intro a hE
                refine p_cons (s_still p5_27_8 hE wn_none rfl (st_fieldAddr Try.underlying41 rfl tS4 rfl rfl) ?_)
                clear hE a; intro a hE
                refine p_cons (s_store (off := 1) (k := 1) (cs' := #[Value.float .f64 fx, Value.bool true, Value.int .i64 s]) p5_27_9 hE wn_none tS4 rfl rfl rfl rfl B_g4 (Nat.le_of_ble_eq_true rfl) rfl ?_)
                intro w56 B_g4' hk
                replace B_gx := kp_blk B_gx hk (Ne.symm n_g4_gx)
                replace B_g8 := kp_blk B_g8 hk (Ne.symm n_g4_g8)
                replace K_0 := K_0.then_ hk (fun k h => by rw [show k = g4 from h]; exact Or.inr z_0_g4)
                replace B_g4 := B_g4'
                clear hk
                refine p_nil ?_
                refine x_normB ?_
                refine x_norm ?_
                have hmR : right fx := hR_fx
                refine c_reg R5_29_l ?_
                refine p_cons (s_still p5_29_0 hE wn_none rfl (st_move rfl) ?_)
                clear hE a; intro a hE
                refine p_cons (s_call (xs := [Operand.tmp 93]) (args := [Value.pointer (some ⟨gx, 0, none⟩)]) p5_29_1 hE wn_none rfl rfl Try.func22 cl22 (Mean_true gx fx s _ B_gx) ?_)
                rintro e w57 ⟨rfl, hk⟩
                replace B_g4 := kp_blk B_g4 hk (fun h => h)
                replace B_gx := kp_blk B_gx hk (fun h => h)
                replace B_g8 := kp_blk B_g8 hk (fun h => h)
                replace K_0 := K_0.then_ hk (fun _ h => h.elim)
                refine ⟨_, rfl, ?_⟩
                clear hE a; intro a hE
                refine p_cons (s_still p5_29_2 hE wn_none rfl (st_move rfl) ?_)
                clear hE a; intro a hE
                refine p_cons (s_still p5_29_3 hE wn_none rfl (st_extract rfl rfl) ?_)
                clear hE a; intro a hE
                refine p_cons (s_still p5_29_4 hE wn_none rfl (st_extract rfl rfl) ?_)
                clear hE a; intro a hE
                refine p_cons (s_still p5_29_5 hE wn_none rfl (st_assign rfl) ?_)
                clear hE a; intro a hE
                refine p_cons (s_still p5_29_6 hE wn_none rfl (st_assign rfl) ?_)
                clear hE a; intro a hE
                refine p_nil ?_
                refine x_norm ?_
                refine c_reg R5_30_l ?_
                refine p_cons (s_still p5_30_0 hE wn_none rfl (st_assign rfl) ?_)
                clear hE a; intro a hE
                refine p_nil ?_
                refine x_norm ?_
                refine wp_seq ?_
                refine c_reg R5_31_l ?_
                refine p_cons (s_still p5_31_0 hE wn_none rfl (st_move rfl) ?_)
                clear hE a; intro a hE
                refine p_cons (s_still p5_31_1 hE wn_none rfl (st_nil rfl) ?_)
                clear hE a; intro a hE
                refine p_cons (s_still p5_31_2 hE wn_none rfl (st_fieldAddr Try.underlying41 rfl tS4 rfl rfl) ?_)
                clear hE a; intro a hE
                refine p_cons (s_still p5_31_3 hE wn_none rfl (st_load1 tA4 rfl ((blk_cell B_g4 1).trans rfl)) ?_)
                clear hE a; intro a hE
                refine p_nil ?_
                refine x_norm ?_
                refine c_cond (t := true) hE rfl ?_
                refine c_regL R5_32_l ?_
                refine p_cons (s_still p5_32_0 hE wn_none rfl (st_move rfl) ?_)
                clear hE a; intro a hE
                refine p_cons (s_still p5_32_1 hE wn_none rfl (st_nil rfl) ?_)
                clear hE a; intro a hE
                refine p_cons (s_still p5_32_2 hE wn_none rfl (st_fieldAddr Try.underlying41 rfl tS22 rfl rfl) ?_)
                clear hE a; intro a hE
                refine p_cons (s_still p5_32_3 hE wn_none rfl (st_load1 tA22 rfl ((blk_cell B_g4 0).trans rfl)) ?_)
                clear hE a; intro a hE
                refine p_cons (s_call (xs := [Operand.tmp 104]) (args := [Value.float .f64 fx]) p5_32_4 hE wn_none rfl rfl Try.func15 cl15 (rcost_any fx hmR _ rfl _) ?_)
                rintro e w58 ⟨rfl, hk⟩
                replace B_g4 := kp_blk B_g4 hk (fun h => h)
                replace B_gx := kp_blk B_gx hk (fun h => h)
                replace B_g8 := kp_blk B_g8 hk (fun h => h)
                replace K_0 := K_0.then_ hk (fun _ h => h.elim)
                refine ⟨_, rfl, ?_⟩
                clear hE a; intro a hE
                refine p_cons (s_still p5_32_5 hE wn_none rfl (st_assign rfl) ?_)
                clear hE a; intro a hE
                refine p_nil ?_
                refine x_norm ?_
                refine c_drawS (S := fun W => W.heap[g4]? = some (.cells #[Value.float .f64 fx, Value.bool true, Value.int .i64 s] 41 (0, 0)) ∧ W.heap[gx]? = some (.cells #[Value.float .f64 fx, Value.bool true, Value.int .i64 s] 38 (0, 0)) ∧ W.heap[g8]? = some (.cells #[Value.int .i64 kd, Value.int .i64 nn, Value.float .f64 fx] 43 (0, 0)) ∧ True) rfl rfl (listed := #[false, false, false, false, false, false, false, false, false, false, false, false, false, false, false, false, false, false, false, false, false, false, false, false, false, false, false, false, false, false, false, false, false, false, false, false, false, false, false, false, false, false, false, false, false, false, false]) rfl ?_
                intro w59 hh hk
                replace B_g4 := kp_blk B_g4 hk (fun h => h)
                replace B_gx := kp_blk B_gx hk (fun h => h)
                replace B_g8 := kp_blk B_g8 hk (fun h => h)
                replace K_0 := K_0.then_ hk (fun _ h => h.elim)
                clear hh hk
                refine d_take (v := Value.bool true) p5_33_0 ns5_33 (by kernel_rfl) (by kernel_rfl) (fun _ _ _ h => h) hE wn_none rfl ⟨B_g4, B_gx, B_g8, trivial⟩ (fun W hS => (st_move rfl)) rfl ?_
                clear hE a; intro a hE
                refine d_take (v := Value.bool false) p5_33_1 ns5_33 (by kernel_rfl) (by kernel_rfl) (fun _ _ _ h => h) hE wn_none rfl ⟨B_g4, B_gx, B_g8, trivial⟩ (fun W hS => (st_not rfl rfl)) rfl ?_
                clear hE a; intro a hE
                refine d_take (v := Value.bool false) p5_33_2 ns5_33 (by kernel_rfl) (by kernel_rfl) (fun _ _ _ h => h) hE wn_none rfl ⟨B_g4, B_gx, B_g8, trivial⟩ (fun W hS => (st_move rfl)) rfl ?_
                clear hE a; intro a hE
                refine d_take (v := Value.pointer (some ⟨gx, 0, none⟩)) p5_33_3 ns5_33 (by kernel_rfl) (by kernel_rfl) (fun _ _ _ h => h) hE (wn_some g5_33_2 rfl rfl) rfl ⟨B_g4, B_gx, B_g8, trivial⟩ (fun W hS => (st_move rfl)) rfl ?_
                clear hE a; intro a hE
                refine d_take (v := Value.pointer (some ⟨g4, 0, none⟩)) p5_33_5 ns5_33 (by kernel_rfl) (by kernel_rfl) (fun _ _ _ h => h) hE (wn_some g5_33_2 rfl rfl) rfl ⟨B_g4, B_gx, B_g8, trivial⟩ (fun W hS => (st_move rfl)) rfl ?_
                clear hE a; intro a hE
                refine d_take (v := Value.pointer (some ⟨g4, 0, none⟩)) p5_33_6 ns5_33 (by kernel_rfl) (by kernel_rfl) (fun _ _ _ h => h) hE (wn_some g5_33_2 rfl rfl) rfl ⟨B_g4, B_gx, B_g8, trivial⟩ (fun W hS => (st_nil rfl)) rfl ?_
                clear hE a; intro a hE
                refine d_take (v := Value.pointer (some ⟨g4, 2, none⟩)) p5_33_7 ns5_33 (by kernel_rfl) (by kernel_rfl) (fun _ _ _ h => h) hE (wn_some g5_33_2 rfl rfl) rfl ⟨B_g4, B_gx, B_g8, trivial⟩ (fun W hS => (st_fieldAddr Try.underlying41 rfl tS3 rfl rfl)) rfl ?_
                clear hE a; intro a hE
                refine d_take (v := Value.int .i64 s) p5_33_8 ns5_33 (by kernel_rfl) (by kernel_rfl) (fun _ _ _ h => h) hE (wn_some g5_33_2 rfl rfl) rfl ⟨B_g4, B_gx, B_g8, trivial⟩ (fun W hS => (st_load1 tA3 rfl ((blk_cell hS.1 2).trans rfl))) rfl ?_
                clear hE a; intro a hE
                refine d_one (by kernel_rfl) rfl (s_call (xs := [Operand.tmp 109]) (args := [Value.pointer (some ⟨gx, 0, none⟩)]) p5_33_4 hE (wn_some g5_33_2 rfl rfl) rfl rfl Try.func23 cl23 (Sent_any gx fx true s _ B_gx) ?_)
                rintro e w60 ⟨rfl, hk⟩
                replace B_g4 := kp_blk B_g4 hk (fun h => h)
                replace B_gx := kp_blk B_gx hk (fun h => h)
                replace B_g8 := kp_blk B_g8 hk (fun h => h)
                replace K_0 := K_0.then_ hk (fun _ h => h.elim)
                refine ⟨_, rfl, ?_⟩
                clear hE a; intro a hE
                refine ⟨⟨B_g4, B_gx, B_g8, trivial⟩, ?_⟩
                refine d_take (v := Value.bool false) p5_33_9 ns5_33 (by kernel_rfl) (by kernel_rfl) (fun _ _ _ h => h) hE (wn_some g5_33_2 rfl rfl) rfl ⟨B_g4, B_gx, B_g8, trivial⟩ (fun W hS => (st_neq (b := false) rfl rfl (by simp))) rfl ?_
                clear hE a; intro a hE
                refine d_take (v := Value.bool false) p5_33_10 ns5_33 (by kernel_rfl) (by kernel_rfl) (fun _ _ _ h => h) hE wn_none rfl ⟨B_g4, B_gx, B_g8, trivial⟩ (fun W hS => (st_pick rfl rfl)) rfl ?_
                clear hE a; intro a hE
                refine d_take (v := Value.bool false) p5_33_11 ns5_33 (by kernel_rfl) (by kernel_rfl) (fun _ _ _ h => h) hE wn_none rfl ⟨B_g4, B_gx, B_g8, trivial⟩ (fun W hS => (st_move rfl)) rfl ?_
                clear hE a; intro a hE
                refine d_take (v := Value.pointer (some ⟨gx, 0, none⟩)) p5_33_12 ns5_33 (by kernel_rfl) (by kernel_rfl) (fun _ _ _ h => h) hE (wn_some g5_33_11 rfl rfl) rfl ⟨B_g4, B_gx, B_g8, trivial⟩ (fun W hS => (st_move rfl)) rfl ?_
                clear hE a; intro a hE
                refine d_take (v := Value.int .i64 (costV fx)) p5_33_14 ns5_33 (by kernel_rfl) (by kernel_rfl) (fun _ _ _ h => h) hE (wn_some g5_33_11 rfl rfl) rfl ⟨B_g4, B_gx, B_g8, trivial⟩ (fun W hS => (st_move rfl)) rfl ?_
                clear hE a; intro a hE
                refine d_one (by kernel_rfl) rfl (s_call (xs := [Operand.tmp 118]) (args := [Value.pointer (some ⟨gx, 0, none⟩)]) p5_33_13 hE (wn_some g5_33_11 rfl rfl) rfl rfl Try.func24 cl24 (LCost_true gx fx s hmR _ rfl _ B_gx) ?_)
                rintro e w61 ⟨rfl, hk⟩
                replace B_g4 := kp_blk B_g4 hk (fun h => h)
                replace B_gx := kp_blk B_gx hk (fun h => h)
                replace B_g8 := kp_blk B_g8 hk (fun h => h)
                replace K_0 := K_0.then_ hk (fun _ h => h.elim)
                refine ⟨_, rfl, ?_⟩
                clear hE a; intro a hE
                refine ⟨⟨B_g4, B_gx, B_g8, trivial⟩, ?_⟩
                refine d_take (v := Value.bool false) p5_33_15 ns5_33 (by kernel_rfl) (by kernel_rfl) (fun _ _ _ h => h) hE (wn_some g5_33_11 rfl rfl) rfl ⟨B_g4, B_gx, B_g8, trivial⟩ (fun W hS => (st_neq (b := false) rfl rfl (by simp))) rfl ?_
                clear hE a; intro a hE
                refine d_take (v := Value.bool false) p5_33_16 ns5_33 (by kernel_rfl) (by kernel_rfl) (fun _ _ _ h => h) hE wn_none rfl ⟨B_g4, B_gx, B_g8, trivial⟩ (fun W hS => (st_pick rfl rfl)) rfl ?_
                clear hE a; intro a hE
                refine d_take (v := Value.bool false) p5_33_17 ns5_33 (by kernel_rfl) (by kernel_rfl) (fun _ _ _ h => h) hE wn_none rfl ⟨B_g4, B_gx, B_g8, trivial⟩ (fun W hS => (st_move rfl)) rfl ?_
                clear hE a; intro a hE
                refine d_take (v := Value.pointer (some ⟨g4, 0, none⟩)) p5_33_18 ns5_33 (by kernel_rfl) (by kernel_rfl) (fun _ _ _ h => h) hE (wn_some g5_33_17 rfl rfl) rfl ⟨B_g4, B_gx, B_g8, trivial⟩ (fun W hS => (st_move rfl)) rfl ?_
                clear hE a; intro a hE
                refine d_take (v := Value.pointer (some ⟨g4, 0, none⟩)) p5_33_19 ns5_33 (by kernel_rfl) (by kernel_rfl) (fun _ _ _ h => h) hE (wn_some g5_33_17 rfl rfl) rfl ⟨B_g4, B_gx, B_g8, trivial⟩ (fun W hS => (st_nil rfl)) rfl ?_
                clear hE a; intro a hE
                refine d_take (v := Value.pointer (some ⟨g4, 1, none⟩)) p5_33_20 ns5_33 (by kernel_rfl) (by kernel_rfl) (fun _ _ _ h => h) hE (wn_some g5_33_17 rfl rfl) rfl ⟨B_g4, B_gx, B_g8, trivial⟩ (fun W hS => (st_fieldAddr Try.underlying41 rfl tS4 rfl rfl)) rfl ?_
                clear hE a; intro a hE
                refine d_take (v := Value.bool true) p5_33_21 ns5_33 (by kernel_rfl) (by kernel_rfl) (fun _ _ _ h => h) hE (wn_some g5_33_17 rfl rfl) rfl ⟨B_g4, B_gx, B_g8, trivial⟩ (fun W hS => (st_load1 tA4 rfl ((blk_cell hS.1 1).trans rfl))) rfl ?_
                clear hE a; intro a hE
                refine d_take (v := Value.bool false) p5_33_22 ns5_33 (by kernel_rfl) (by kernel_rfl) (fun _ _ _ h => h) hE (wn_some g5_33_17 rfl rfl) rfl ⟨B_g4, B_gx, B_g8, trivial⟩ (fun W hS => (st_not rfl rfl)) rfl ?_
                clear hE a; intro a hE
                refine d_take (v := Value.bool false) p5_33_23 ns5_33 (by kernel_rfl) (by kernel_rfl) (fun _ _ _ h => h) hE (wn_some g5_33_17 rfl rfl) rfl ⟨B_g4, B_gx, B_g8, trivial⟩ (fun W hS => (st_move rfl)) rfl ?_
                clear hE a; intro a hE
                refine d_skip p5_33_24 ns5_33 (by kernel_rfl) (by kernel_rfl) (fun _ _ _ h => h) hE (wn_some g5_33_23 rfl rfl) rfl ⟨B_g4, B_gx, B_g8, trivial⟩ rfl ?_
                clear hE a; intro a hE
                refine d_skip p5_33_25 ns5_33 (by kernel_rfl) (by kernel_rfl) (fun _ _ _ h => h) hE (wn_some g5_33_23 rfl rfl) rfl ⟨B_g4, B_gx, B_g8, trivial⟩ rfl ?_
                clear hE a; intro a hE
                refine d_take (v := Value.bool false) p5_33_26 ns5_33 (by kernel_rfl) (by kernel_rfl) (fun _ _ _ h => h) hE (wn_some g5_33_17 rfl rfl) rfl ⟨B_g4, B_gx, B_g8, trivial⟩ (fun W hS => (st_pick rfl rfl)) rfl ?_
                clear hE a; intro a hE
                refine d_take (v := Value.bool false) p5_33_27 ns5_33 (by kernel_rfl) (by kernel_rfl) (fun _ _ _ h => h) hE wn_none rfl ⟨B_g4, B_gx, B_g8, trivial⟩ (fun W hS => (st_pick rfl rfl)) rfl ?_
                clear hE a; intro a hE
                refine d_take (v := Value.bool false) p5_33_28 ns5_33 (by kernel_rfl) (by kernel_rfl) (fun _ _ _ h => h) hE wn_none rfl ⟨B_g4, B_gx, B_g8, trivial⟩ (fun W hS => (st_move rfl)) rfl ?_
                clear hE a; intro a hE
                refine d_take (v := Value.pointer (some ⟨g4, 0, none⟩)) p5_33_29 ns5_33 (by kernel_rfl) (by kernel_rfl) (fun _ _ _ h => h) hE (wn_some g5_33_28 rfl rfl) rfl ⟨B_g4, B_gx, B_g8, trivial⟩ (fun W hS => (st_move rfl)) rfl ?_
                clear hE a; intro a hE
                refine d_take (v := Value.pointer (some ⟨g4, 0, none⟩)) p5_33_30 ns5_33 (by kernel_rfl) (by kernel_rfl) (fun _ _ _ h => h) hE (wn_some g5_33_28 rfl rfl) rfl ⟨B_g4, B_gx, B_g8, trivial⟩ (fun W hS => (st_nil rfl)) rfl ?_
                clear hE a; intro a hE
                refine d_take (v := Value.pointer (some ⟨g4, 1, none⟩)) p5_33_31 ns5_33 (by kernel_rfl) (by kernel_rfl) (fun _ _ _ h => h) hE (wn_some g5_33_28 rfl rfl) rfl ⟨B_g4, B_gx, B_g8, trivial⟩ (fun W hS => (st_fieldAddr Try.underlying41 rfl tS4 rfl rfl)) rfl ?_
                clear hE a; intro a hE
                refine d_take (v := Value.bool true) p5_33_32 ns5_33 (by kernel_rfl) (by kernel_rfl) (fun _ _ _ h => h) hE (wn_some g5_33_28 rfl rfl) rfl ⟨B_g4, B_gx, B_g8, trivial⟩ (fun W hS => (st_load1 tA4 rfl ((blk_cell hS.1 1).trans rfl))) rfl ?_
                clear hE a; intro a hE
                refine d_take (v := Value.bool true) p5_33_33 ns5_33 (by kernel_rfl) (by kernel_rfl) (fun _ _ _ h => h) hE (wn_some g5_33_28 rfl rfl) rfl ⟨B_g4, B_gx, B_g8, trivial⟩ (fun W hS => (st_move rfl)) rfl ?_
                clear hE a; intro a hE
                refine d_take (v := Value.int .i64 0) p5_33_34 ns5_33 (by kernel_rfl) (by kernel_rfl) (fun _ _ _ h => h) hE (wn_some g5_33_33 rfl rfl) rfl ⟨B_g4, B_gx, B_g8, trivial⟩ (fun W hS => (st_move rfl)) rfl ?_
                clear hE a; intro a hE
                refine d_take (v := Value.bool false) p5_33_35 ns5_33 (by kernel_rfl) (by kernel_rfl) (fun _ _ _ h => h) hE (wn_some g5_33_33 rfl rfl) rfl ⟨B_g4, B_gx, B_g8, trivial⟩ (fun W hS => (st_neq (b := false) rfl rfl (by decide))) rfl ?_
                clear hE a; intro a hE
                refine d_take (v := Value.bool false) p5_33_36 ns5_33 (by kernel_rfl) (by kernel_rfl) (fun _ _ _ h => h) hE (wn_some g5_33_33 rfl rfl) rfl ⟨B_g4, B_gx, B_g8, trivial⟩ (fun W hS => (st_move rfl)) rfl ?_
                clear hE a; intro a hE
                refine d_take (v := Value.float .f64 fx) p5_33_37 ns5_33 (by kernel_rfl) (by kernel_rfl) (fun _ _ _ h => h) hE (wn_some g5_33_36 rfl rfl) rfl ⟨B_g4, B_gx, B_g8, trivial⟩ (fun W hS => (st_move rfl)) rfl ?_
                clear hE a; intro a hE
                refine d_take (v := Value.pointer (some ⟨g4, 0, none⟩)) p5_33_38 ns5_33 (by kernel_rfl) (by kernel_rfl) (fun _ _ _ h => h) hE (wn_some g5_33_36 rfl rfl) rfl ⟨B_g4, B_gx, B_g8, trivial⟩ (fun W hS => (st_move rfl)) rfl ?_
                clear hE a; intro a hE
                refine d_take (v := Value.pointer (some ⟨g4, 0, none⟩)) p5_33_39 ns5_33 (by kernel_rfl) (by kernel_rfl) (fun _ _ _ h => h) hE (wn_some g5_33_36 rfl rfl) rfl ⟨B_g4, B_gx, B_g8, trivial⟩ (fun W hS => (st_nil rfl)) rfl ?_
                clear hE a; intro a hE
                refine d_take (v := Value.pointer (some ⟨g4, 0, none⟩)) p5_33_40 ns5_33 (by kernel_rfl) (by kernel_rfl) (fun _ _ _ h => h) hE (wn_some g5_33_36 rfl rfl) rfl ⟨B_g4, B_gx, B_g8, trivial⟩ (fun W hS => (st_fieldAddr Try.underlying41 rfl tS22 rfl rfl)) rfl ?_
                clear hE a; intro a hE
                refine d_take (v := Value.float .f64 fx) p5_33_41 ns5_33 (by kernel_rfl) (by kernel_rfl) (fun _ _ _ h => h) hE (wn_some g5_33_36 rfl rfl) rfl ⟨B_g4, B_gx, B_g8, trivial⟩ (fun W hS => (st_load1 tA22 rfl ((blk_cell hS.1 0).trans rfl))) rfl ?_
                clear hE a; intro a hE
                refine d_one (by kernel_rfl) rfl (s_call (xs := [Operand.tmp 143, Operand.tmp 147]) (args := [Value.float .f64 fx, Value.float .f64 fx]) p5_33_42 hE (wn_some g5_33_36 rfl rfl) rfl rfl Try.func25 cl25 (same_self fx _) ?_)
                rintro e w62 ⟨rfl, hk⟩
                replace B_g4 := kp_blk B_g4 hk (fun h => h)
                replace B_gx := kp_blk B_gx hk (fun h => h)
                replace B_g8 := kp_blk B_g8 hk (fun h => h)
                replace K_0 := K_0.then_ hk (fun _ h => h.elim)
                refine ⟨_, rfl, ?_⟩
                clear hE a; intro a hE
                refine ⟨⟨B_g4, B_gx, B_g8, trivial⟩, ?_⟩
                refine d_take (v := Value.bool false) p5_33_43 ns5_33 (by kernel_rfl) (by kernel_rfl) (fun _ _ _ h => h) hE (wn_some g5_33_36 rfl rfl) rfl ⟨B_g4, B_gx, B_g8, trivial⟩ (fun W hS => (st_not rfl rfl)) rfl ?_
                clear hE a; intro a hE
                refine d_take (v := Value.bool false) p5_33_44 ns5_33 (by kernel_rfl) (by kernel_rfl) (fun _ _ _ h => h) hE (wn_some g5_33_33 rfl rfl) rfl ⟨B_g4, B_gx, B_g8, trivial⟩ (fun W hS => (st_pick rfl rfl)) rfl ?_
                clear hE a; intro a hE
                refine d_take (v := Value.bool false) p5_33_45 ns5_33 (by kernel_rfl) (by kernel_rfl) (fun _ _ _ h => h) hE (wn_some g5_33_28 rfl rfl) rfl ⟨B_g4, B_gx, B_g8, trivial⟩ (fun W hS => (st_pick rfl rfl)) rfl ?_
                clear hE a; intro a hE
                refine d_take (v := Value.bool false) p5_33_46 ns5_33 (by kernel_rfl) (by kernel_rfl) (fun _ _ _ h => h) hE wn_none rfl ⟨B_g4, B_gx, B_g8, trivial⟩ (fun W hS => (st_pick rfl rfl)) rfl ?_
                clear hE a; intro a hE
                refine d_end (by kernel_rfl) ?_
                refine x_norm ?_
                refine c_cond (t := false) hE rfl ?_
                refine wp_skip ?_
                refine x_normB ?_
                refine x_norm ?_
                refine c_regL R5_5_l ?_
                refine p_cons (s_still p5_5_0 hE wn_none rfl (st_move rfl) ?_)
                clear hE a; intro a hE
                refine p_cons (s_still p5_5_1 hE wn_none rfl (st_add (z := (k : Int) + 1) rfl rfl (wr_i64 _ (by omega) (by omega))) ?_)
                clear hE a; intro a hE
                refine p_cons (s_still p5_5_2 hE wn_none rfl (st_assign rfl) ?_)
                clear hE a; intro a hE
                refine p_nil ?_
                refine x_norm ?_
                have hs9 : 0 ≤ s ∧ s ≤ 1099511627776 := hs
                have hm9 : true = true → right fx := fun _ => hmR
                exact ⟨k + 1, by omega, gx, fx, true, s, En.sub hE ⟨rfl, rfl, rfl, rfl, trivial⟩, by omega, hm9, hs9, B_g4, B_gx, z_0_gx, n_g4_gx, K_0⟩
              ·
                refine c_reg R5_24_l ?_
                refine p_cons (s_still p5_24_0 hE wn_none rfl (st_move rfl) ?_)
                clear hE a; intro a hE
                refine p_cons (s_still p5_24_1 hE wn_none rfl (st_fieldAddr Try.underlying43 rfl tS22 rfl rfl) ?_)
                clear hE a; intro a hE
                refine p_cons (s_still p5_24_2 hE wn_none rfl (st_load1 tA22 rfl ((blk_cell B_g8 2).trans rfl)) ?_)
                clear hE a; intro a hE
                refine p_cons (s_call (xs := [Operand.tmp 73, Operand.tmp 75]) (args := [Value.pointer (some ⟨gx, 0, none⟩), Value.float .f64 fx]) p5_24_3 hE wn_none rfl rfl Try.func20 cl20 (Set_no gx m fx is s (by omega) _ B_gx hR_fx) ?_)
                rintro e w63 ⟨rfl, B_gx', hk⟩
                replace B_g4 := kp_blk B_g4 hk n_g4_gx
                replace B_g8 := kp_blk B_g8 hk (Ne.symm n_gx_g8)
                replace K_0 := K_0.then_ hk (fun k h => by rw [show k = gx from h]; exact Or.inr z_0_gx)
                replace B_gx : w63.heap[gx]? = some (.cells #[Value.float .f64 m, Value.bool is, Value.int .i64 s] 38 (0, 0)) := B_gx'
                clear B_gx'
                refine ⟨_, rfl, ?_⟩
                clear hE a; intro a hE
                refine p_cons (s_still p5_24_4 hE wn_none rfl (st_assign rfl) ?_)
                clear hE a; intro a hE
                refine p_nil ?_
                refine x_norm ?_
                refine c_reg R5_25_l ?_
                refine p_cons (s_still p5_25_0 hE wn_none rfl (st_fieldAddr Try.underlying43 rfl tS22 rfl rfl) ?_)
                clear hE a; intro a hE
                refine p_cons (s_still p5_25_1 hE wn_none rfl (st_load1 tA22 rfl ((blk_cell B_g8 2).trans rfl)) ?_)
                clear hE a; intro a hE
                refine p_cons (s_call (xs := [Operand.tmp 78]) (args := [Value.float .f64 fx]) p5_25_2 hE wn_none rfl rfl Try.func14 cl14 (rright_any fx (by omega) false (decide_eq_false hR_fx) _) ?_)
                rintro e w64 ⟨rfl, hk⟩
                replace B_g4 := kp_blk B_g4 hk (fun h => h)
                replace B_gx := kp_blk B_gx hk (fun h => h)
                replace B_g8 := kp_blk B_g8 hk (fun h => h)
                replace K_0 := K_0.then_ hk (fun _ h => h.elim)
                refine ⟨_, rfl, ?_⟩
                clear hE a; intro a hE
                refine p_nil ?_
                refine x_norm ?_
                refine c_cond (t := false) hE rfl ?_
                refine c_regL R5_28_l ?_
                refine p_cons (s_still p5_28_0 hE wn_none rfl (st_move rfl) ?_)
                clear hE a; intro a hE
                refine p_cons (s_still p5_28_1 hE wn_none rfl (st_eql (b := true) rfl rfl (by decide)) ?_)
                clear hE a; intro a hE
                refine p_cons (s_still p5_28_2 hE wn_none rfl (st_assign rfl) ?_)
                clear hE a; intro a hE
                refine p_nil ?_
                refine x_normB ?_
                refine x_norm ?_
                rcases Decidable.em (is = true) with hIS | hIS
                ·
                  obtain rfl : is = true := hIS
                  have hmR : right m := hm rfl
                  refine c_reg R5_29_l ?_
                  refine p_cons (s_still p5_29_0 hE wn_none rfl (st_move rfl) ?_)
                  clear hE a; intro a hE
                  refine p_cons (s_call (xs := [Operand.tmp 93]) (args := [Value.pointer (some ⟨gx, 0, none⟩)]) p5_29_1 hE wn_none rfl rfl Try.func22 cl22 (Mean_true gx m s _ B_gx) ?_)
                  rintro e w65 ⟨rfl, hk⟩
                  replace B_g4 := kp_blk B_g4 hk (fun h => h)
                  replace B_gx := kp_blk B_gx hk (fun h => h)
                  replace B_g8 := kp_blk B_g8 hk (fun h => h)
                  replace K_0 := K_0.then_ hk (fun _ h => h.elim)
                  refine ⟨_, rfl, ?_⟩
                  clear hE a; intro a hE
                  refine p_cons (s_still p5_29_2 hE wn_none rfl (st_move rfl) ?_)
                  clear hE a; intro a hE
                  refine p_cons (s_still p5_29_3 hE wn_none rfl (st_extract rfl rfl) ?_)
                  clear hE a; intro a hE
                  refine p_cons (s_still p5_29_4 hE wn_none rfl (st_extract rfl rfl) ?_)
                  clear hE a; intro a hE
                  refine p_cons (s_still p5_29_5 hE wn_none rfl (st_assign rfl) ?_)
                  clear hE a; intro a hE
                  refine p_cons (s_still p5_29_6 hE wn_none rfl (st_assign rfl) ?_)
                  clear hE a; intro a hE
                  refine p_nil ?_
                  refine x_norm ?_
                  refine c_reg R5_30_l ?_
                  refine p_cons (s_still p5_30_0 hE wn_none rfl (st_assign rfl) ?_)
                  clear hE a; intro a hE
                  refine p_nil ?_
                  refine x_norm ?_
                  refine wp_seq ?_
                  refine c_reg R5_31_l ?_
                  refine p_cons (s_still p5_31_0 hE wn_none rfl (st_move rfl) ?_)
                  clear hE a; intro a hE
                  refine p_cons (s_still p5_31_1 hE wn_none rfl (st_nil rfl) ?_)
                  clear hE a; intro a hE
                  refine p_cons (s_still p5_31_2 hE wn_none rfl (st_fieldAddr Try.underlying41 rfl tS4 rfl rfl) ?_)
                  clear hE a; intro a hE
                  refine p_cons (s_still p5_31_3 hE wn_none rfl (st_load1 tA4 rfl ((blk_cell B_g4 1).trans rfl)) ?_)
                  clear hE a; intro a hE
                  refine p_nil ?_
                  refine x_norm ?_
                  refine c_cond (t := true) hE rfl ?_
                  refine c_regL R5_32_l ?_
                  refine p_cons (s_still p5_32_0 hE wn_none rfl (st_move rfl) ?_)
                  clear hE a; intro a hE
                  refine p_cons (s_still p5_32_1 hE wn_none rfl (st_nil rfl) ?_)
                  clear hE a; intro a hE
                  refine p_cons (s_still p5_32_2 hE wn_none rfl (st_fieldAddr Try.underlying41 rfl tS22 rfl rfl) ?_)
                  clear hE a; intro a hE
                  refine p_cons (s_still p5_32_3 hE wn_none rfl (st_load1 tA22 rfl ((blk_cell B_g4 0).trans rfl)) ?_)
                  clear hE a; intro a hE
                  refine p_cons (s_call (xs := [Operand.tmp 104]) (args := [Value.float .f64 m]) p5_32_4 hE wn_none rfl rfl Try.func15 cl15 (rcost_any m hmR _ rfl _) ?_)
                  rintro e w66 ⟨rfl, hk⟩
                  replace B_g4 := kp_blk B_g4 hk (fun h => h)
                  replace B_gx := kp_blk B_gx hk (fun h => h)
                  replace B_g8 := kp_blk B_g8 hk (fun h => h)
                  replace K_0 := K_0.then_ hk (fun _ h => h.elim)
                  refine ⟨_, rfl, ?_⟩
                  clear hE a; intro a hE
                  refine p_cons (s_still p5_32_5 hE wn_none rfl (st_assign rfl) ?_)
                  clear hE a; intro a hE
                  refine p_nil ?_
                  refine x_norm ?_
                  refine c_drawS (S := fun W => W.heap[g4]? = some (.cells #[Value.float .f64 m, Value.bool true, Value.int .i64 s] 41 (0, 0)) ∧ W.heap[gx]? = some (.cells #[Value.float .f64 m, Value.bool true, Value.int .i64 s] 38 (0, 0)) ∧ W.heap[g8]? = some (.cells #[Value.int .i64 kd, Value.int .i64 nn, Value.float .f64 fx] 43 (0, 0)) ∧ True) rfl rfl (listed := #[false, false, false, false, false, false, false, false, false, false, false, false, false, false, false, false, false, false, false, false, false, false, false, false, false, false, false, false, false, false, false, false, false, false, false, false, false, false, false, false, false, false, false, false, false, false, false]) rfl ?_
                  intro w67 hh hk
                  replace B_g4 := kp_blk B_g4 hk (fun h => h)
                  replace B_gx := kp_blk B_gx hk (fun h => h)
                  replace B_g8 := kp_blk B_g8 hk (fun h => h)
                  replace K_0 := K_0.then_ hk (fun _ h => h.elim)
                  clear hh hk
                  refine d_take (v := Value.bool true) p5_33_0 ns5_33 (by kernel_rfl) (by kernel_rfl) (fun _ _ _ h => h) hE wn_none rfl ⟨B_g4, B_gx, B_g8, trivial⟩ (fun W hS => (st_move rfl)) rfl ?_
                  clear hE a; intro a hE
                  refine d_take (v := Value.bool false) p5_33_1 ns5_33 (by kernel_rfl) (by kernel_rfl) (fun _ _ _ h => h) hE wn_none rfl ⟨B_g4, B_gx, B_g8, trivial⟩ (fun W hS => (st_not rfl rfl)) rfl ?_
                  clear hE a; intro a hE
                  refine d_take (v := Value.bool false) p5_33_2 ns5_33 (by kernel_rfl) (by kernel_rfl) (fun _ _ _ h => h) hE wn_none rfl ⟨B_g4, B_gx, B_g8, trivial⟩ (fun W hS => (st_move rfl)) rfl ?_
                  clear hE a; intro a hE
                  refine d_take (v := Value.pointer (some ⟨gx, 0, none⟩)) p5_33_3 ns5_33 (by kernel_rfl) (by kernel_rfl) (fun _ _ _ h => h) hE (wn_some g5_33_2 rfl rfl) rfl ⟨B_g4, B_gx, B_g8, trivial⟩ (fun W hS => (st_move rfl)) rfl ?_
                  clear hE a; intro a hE
                  refine d_take (v := Value.pointer (some ⟨g4, 0, none⟩)) p5_33_5 ns5_33 (by kernel_rfl) (by kernel_rfl) (fun _ _ _ h => h) hE (wn_some g5_33_2 rfl rfl) rfl ⟨B_g4, B_gx, B_g8, trivial⟩ (fun W hS => (st_move rfl)) rfl ?_
                  clear hE a; intro a hE
                  refine d_take (v := Value.pointer (some ⟨g4, 0, none⟩)) p5_33_6 ns5_33 (by kernel_rfl) (by kernel_rfl) (fun _ _ _ h => h) hE (wn_some g5_33_2 rfl rfl) rfl ⟨B_g4, B_gx, B_g8, trivial⟩ (fun W hS => (st_nil rfl)) rfl ?_
                  clear hE a; intro a hE
                  refine d_take (v := Value.pointer (some ⟨g4, 2, none⟩)) p5_33_7 ns5_33 (by kernel_rfl) (by kernel_rfl) (fun _ _ _ h => h) hE (wn_some g5_33_2 rfl rfl) rfl ⟨B_g4, B_gx, B_g8, trivial⟩ (fun W hS => (st_fieldAddr Try.underlying41 rfl tS3 rfl rfl)) rfl ?_
                  clear hE a; intro a hE
                  refine d_take (v := Value.int .i64 s) p5_33_8 ns5_33 (by kernel_rfl) (by kernel_rfl) (fun _ _ _ h => h) hE (wn_some g5_33_2 rfl rfl) rfl ⟨B_g4, B_gx, B_g8, trivial⟩ (fun W hS => (st_load1 tA3 rfl ((blk_cell hS.1 2).trans rfl))) rfl ?_
                  clear hE a; intro a hE
                  refine d_one (by kernel_rfl) rfl (s_call (xs := [Operand.tmp 109]) (args := [Value.pointer (some ⟨gx, 0, none⟩)]) p5_33_4 hE (wn_some g5_33_2 rfl rfl) rfl rfl Try.func23 cl23 (Sent_any gx m true s _ B_gx) ?_)
                  rintro e w68 ⟨rfl, hk⟩
                  replace B_g4 := kp_blk B_g4 hk (fun h => h)
                  replace B_gx := kp_blk B_gx hk (fun h => h)
                  replace B_g8 := kp_blk B_g8 hk (fun h => h)
                  replace K_0 := K_0.then_ hk (fun _ h => h.elim)
                  refine ⟨_, rfl, ?_⟩
                  clear hE a; intro a hE
                  refine ⟨⟨B_g4, B_gx, B_g8, trivial⟩, ?_⟩
                  refine d_take (v := Value.bool false) p5_33_9 ns5_33 (by kernel_rfl) (by kernel_rfl) (fun _ _ _ h => h) hE (wn_some g5_33_2 rfl rfl) rfl ⟨B_g4, B_gx, B_g8, trivial⟩ (fun W hS => (st_neq (b := false) rfl rfl (by simp))) rfl ?_
                  clear hE a; intro a hE
                  refine d_take (v := Value.bool false) p5_33_10 ns5_33 (by kernel_rfl) (by kernel_rfl) (fun _ _ _ h => h) hE wn_none rfl ⟨B_g4, B_gx, B_g8, trivial⟩ (fun W hS => (st_pick rfl rfl)) rfl ?_
                  clear hE a; intro a hE
                  refine d_take (v := Value.bool false) p5_33_11 ns5_33 (by kernel_rfl) (by kernel_rfl) (fun _ _ _ h => h) hE wn_none rfl ⟨B_g4, B_gx, B_g8, trivial⟩ (fun W hS => (st_move rfl)) rfl ?_
                  clear hE a; intro a hE
                  refine d_take (v := Value.pointer (some ⟨gx, 0, none⟩)) p5_33_12 ns5_33 (by kernel_rfl) (by kernel_rfl) (fun _ _ _ h => h) hE (wn_some g5_33_11 rfl rfl) rfl ⟨B_g4, B_gx, B_g8, trivial⟩ (fun W hS => (st_move rfl)) rfl ?_
                  clear hE a; intro a hE
                  refine d_take (v := Value.int .i64 (costV m)) p5_33_14 ns5_33 (by kernel_rfl) (by kernel_rfl) (fun _ _ _ h => h) hE (wn_some g5_33_11 rfl rfl) rfl ⟨B_g4, B_gx, B_g8, trivial⟩ (fun W hS => (st_move rfl)) rfl ?_
                  clear hE a; intro a hE
                  refine d_one (by kernel_rfl) rfl (s_call (xs := [Operand.tmp 118]) (args := [Value.pointer (some ⟨gx, 0, none⟩)]) p5_33_13 hE (wn_some g5_33_11 rfl rfl) rfl rfl Try.func24 cl24 (LCost_true gx m s hmR _ rfl _ B_gx) ?_)
                  rintro e w69 ⟨rfl, hk⟩
                  replace B_g4 := kp_blk B_g4 hk (fun h => h)
                  replace B_gx := kp_blk B_gx hk (fun h => h)
                  replace B_g8 := kp_blk B_g8 hk (fun h => h)
                  replace K_0 := K_0.then_ hk (fun _ h => h.elim)
                  refine ⟨_, rfl, ?_⟩
                  clear hE a; intro a hE
                  refine ⟨⟨B_g4, B_gx, B_g8, trivial⟩, ?_⟩
                  refine d_take (v := Value.bool false) p5_33_15 ns5_33 (by kernel_rfl) (by kernel_rfl) (fun _ _ _ h => h) hE (wn_some g5_33_11 rfl rfl) rfl ⟨B_g4, B_gx, B_g8, trivial⟩ (fun W hS => (st_neq (b := false) rfl rfl (by simp))) rfl ?_
                  clear hE a; intro a hE
                  refine d_take (v := Value.bool false) p5_33_16 ns5_33 (by kernel_rfl) (by kernel_rfl) (fun _ _ _ h => h) hE wn_none rfl ⟨B_g4, B_gx, B_g8, trivial⟩ (fun W hS => (st_pick rfl rfl)) rfl ?_
                  clear hE a; intro a hE
                  refine d_take (v := Value.bool false) p5_33_17 ns5_33 (by kernel_rfl) (by kernel_rfl) (fun _ _ _ h => h) hE wn_none rfl ⟨B_g4, B_gx, B_g8, trivial⟩ (fun W hS => (st_move rfl)) rfl ?_
                  clear hE a; intro a hE
                  refine d_take (v := Value.pointer (some ⟨g4, 0, none⟩)) p5_33_18 ns5_33 (by kernel_rfl) (by kernel_rfl) (fun _ _ _ h => h) hE (wn_some g5_33_17 rfl rfl) rfl ⟨B_g4, B_gx, B_g8, trivial⟩ (fun W hS => (st_move rfl)) rfl ?_
                  clear hE a; intro a hE
                  refine d_take (v := Value.pointer (some ⟨g4, 0, none⟩)) p5_33_19 ns5_33 (by kernel_rfl) (by kernel_rfl) (fun _ _ _ h => h) hE (wn_some g5_33_17 rfl rfl) rfl ⟨B_g4, B_gx, B_g8, trivial⟩ (fun W hS => (st_nil rfl)) rfl ?_
                  clear hE a; intro a hE
                  refine d_take (v := Value.pointer (some ⟨g4, 1, none⟩)) p5_33_20 ns5_33 (by kernel_rfl) (by kernel_rfl) (fun _ _ _ h => h) hE (wn_some g5_33_17 rfl rfl) rfl ⟨B_g4, B_gx, B_g8, trivial⟩ (fun W hS => (st_fieldAddr Try.underlying41 rfl tS4 rfl rfl)) rfl ?_
                  clear hE a; intro a hE
                  refine d_take (v := Value.bool true) p5_33_21 ns5_33 (by kernel_rfl) (by kernel_rfl) (fun _ _ _ h => h) hE (wn_some g5_33_17 rfl rfl) rfl ⟨B_g4, B_gx, B_g8, trivial⟩ (fun W hS => (st_load1 tA4 rfl ((blk_cell hS.1 1).trans rfl))) rfl ?_
                  clear hE a; intro a hE
                  refine d_take (v := Value.bool false) p5_33_22 ns5_33 (by kernel_rfl) (by kernel_rfl) (fun _ _ _ h => h) hE (wn_some g5_33_17 rfl rfl) rfl ⟨B_g4, B_gx, B_g8, trivial⟩ (fun W hS => (st_not rfl rfl)) rfl ?_
                  clear hE a; intro a hE
                  refine d_take (v := Value.bool false) p5_33_23 ns5_33 (by kernel_rfl) (by kernel_rfl) (fun _ _ _ h => h) hE (wn_some g5_33_17 rfl rfl) rfl ⟨B_g4, B_gx, B_g8, trivial⟩ (fun W hS => (st_move rfl)) rfl ?_
                  clear hE a; intro a hE
                  refine d_skip p5_33_24 ns5_33 (by kernel_rfl) (by kernel_rfl) (fun _ _ _ h => h) hE (wn_some g5_33_23 rfl rfl) rfl ⟨B_g4, B_gx, B_g8, trivial⟩ rfl ?_
                  clear hE a; intro a hE
                  refine d_skip p5_33_25 ns5_33 (by kernel_rfl) (by kernel_rfl) (fun _ _ _ h => h) hE (wn_some g5_33_23 rfl rfl) rfl ⟨B_g4, B_gx, B_g8, trivial⟩ rfl ?_
                  clear hE a; intro a hE
                  refine d_take (v := Value.bool false) p5_33_26 ns5_33 (by kernel_rfl) (by kernel_rfl) (fun _ _ _ h => h) hE (wn_some g5_33_17 rfl rfl) rfl ⟨B_g4, B_gx, B_g8, trivial⟩ (fun W hS => (st_pick rfl rfl)) rfl ?_
                  clear hE a; intro a hE
                  refine d_take (v := Value.bool false) p5_33_27 ns5_33 (by kernel_rfl) (by kernel_rfl) (fun _ _ _ h => h) hE wn_none rfl ⟨B_g4, B_gx, B_g8, trivial⟩ (fun W hS => (st_pick rfl rfl)) rfl ?_
                  clear hE a; intro a hE
                  refine d_take (v := Value.bool false) p5_33_28 ns5_33 (by kernel_rfl) (by kernel_rfl) (fun _ _ _ h => h) hE wn_none rfl ⟨B_g4, B_gx, B_g8, trivial⟩ (fun W hS => (st_move rfl)) rfl ?_
                  clear hE a; intro a hE
                  refine d_take (v := Value.pointer (some ⟨g4, 0, none⟩)) p5_33_29 ns5_33 (by kernel_rfl) (by kernel_rfl) (fun _ _ _ h => h) hE (wn_some g5_33_28 rfl rfl) rfl ⟨B_g4, B_gx, B_g8, trivial⟩ (fun W hS => (st_move rfl)) rfl ?_
                  clear hE a; intro a hE
                  refine d_take (v := Value.pointer (some ⟨g4, 0, none⟩)) p5_33_30 ns5_33 (by kernel_rfl) (by kernel_rfl) (fun _ _ _ h => h) hE (wn_some g5_33_28 rfl rfl) rfl ⟨B_g4, B_gx, B_g8, trivial⟩ (fun W hS => (st_nil rfl)) rfl ?_
                  clear hE a; intro a hE
                  refine d_take (v := Value.pointer (some ⟨g4, 1, none⟩)) p5_33_31 ns5_33 (by kernel_rfl) (by kernel_rfl) (fun _ _ _ h => h) hE (wn_some g5_33_28 rfl rfl) rfl ⟨B_g4, B_gx, B_g8, trivial⟩ (fun W hS => (st_fieldAddr Try.underlying41 rfl tS4 rfl rfl)) rfl ?_
                  clear hE a; intro a hE
                  refine d_take (v := Value.bool true) p5_33_32 ns5_33 (by kernel_rfl) (by kernel_rfl) (fun _ _ _ h => h) hE (wn_some g5_33_28 rfl rfl) rfl ⟨B_g4, B_gx, B_g8, trivial⟩ (fun W hS => (st_load1 tA4 rfl ((blk_cell hS.1 1).trans rfl))) rfl ?_
                  clear hE a; intro a hE
                  refine d_take (v := Value.bool true) p5_33_33 ns5_33 (by kernel_rfl) (by kernel_rfl) (fun _ _ _ h => h) hE (wn_some g5_33_28 rfl rfl) rfl ⟨B_g4, B_gx, B_g8, trivial⟩ (fun W hS => (st_move rfl)) rfl ?_
                  clear hE a; intro a hE
                  refine d_take (v := Value.int .i64 0) p5_33_34 ns5_33 (by kernel_rfl) (by kernel_rfl) (fun _ _ _ h => h) hE (wn_some g5_33_33 rfl rfl) rfl ⟨B_g4, B_gx, B_g8, trivial⟩ (fun W hS => (st_move rfl)) rfl ?_
                  clear hE a; intro a hE
                  refine d_take (v := Value.bool false) p5_33_35 ns5_33 (by kernel_rfl) (by kernel_rfl) (fun _ _ _ h => h) hE (wn_some g5_33_33 rfl rfl) rfl ⟨B_g4, B_gx, B_g8, trivial⟩ (fun W hS => (st_neq (b := false) rfl rfl (by decide))) rfl ?_
                  clear hE a; intro a hE
                  refine d_take (v := Value.bool false) p5_33_36 ns5_33 (by kernel_rfl) (by kernel_rfl) (fun _ _ _ h => h) hE (wn_some g5_33_33 rfl rfl) rfl ⟨B_g4, B_gx, B_g8, trivial⟩ (fun W hS => (st_move rfl)) rfl ?_
                  clear hE a; intro a hE
                  refine d_take (v := Value.float .f64 m) p5_33_37 ns5_33 (by kernel_rfl) (by kernel_rfl) (fun _ _ _ h => h) hE (wn_some g5_33_36 rfl rfl) rfl ⟨B_g4, B_gx, B_g8, trivial⟩ (fun W hS => (st_move rfl)) rfl ?_
                  clear hE a; intro a hE
                  refine d_take (v := Value.pointer (some ⟨g4, 0, none⟩)) p5_33_38 ns5_33 (by kernel_rfl) (by kernel_rfl) (fun _ _ _ h => h) hE (wn_some g5_33_36 rfl rfl) rfl ⟨B_g4, B_gx, B_g8, trivial⟩ (fun W hS => (st_move rfl)) rfl ?_
                  clear hE a; intro a hE
                  refine d_take (v := Value.pointer (some ⟨g4, 0, none⟩)) p5_33_39 ns5_33 (by kernel_rfl) (by kernel_rfl) (fun _ _ _ h => h) hE (wn_some g5_33_36 rfl rfl) rfl ⟨B_g4, B_gx, B_g8, trivial⟩ (fun W hS => (st_nil rfl)) rfl ?_
                  clear hE a; intro a hE
                  refine d_take (v := Value.pointer (some ⟨g4, 0, none⟩)) p5_33_40 ns5_33 (by kernel_rfl) (by kernel_rfl) (fun _ _ _ h => h) hE (wn_some g5_33_36 rfl rfl) rfl ⟨B_g4, B_gx, B_g8, trivial⟩ (fun W hS => (st_fieldAddr Try.underlying41 rfl tS22 rfl rfl)) rfl ?_
                  clear hE a; intro a hE
                  refine d_take (v := Value.float .f64 m) p5_33_41 ns5_33 (by kernel_rfl) (by kernel_rfl) (fun _ _ _ h => h) hE (wn_some g5_33_36 rfl rfl) rfl ⟨B_g4, B_gx, B_g8, trivial⟩ (fun W hS => (st_load1 tA22 rfl ((blk_cell hS.1 0).trans rfl))) rfl ?_
                  clear hE a; intro a hE
                  refine d_one (by kernel_rfl) rfl (s_call (xs := [Operand.tmp 143, Operand.tmp 147]) (args := [Value.float .f64 m, Value.float .f64 m]) p5_33_42 hE (wn_some g5_33_36 rfl rfl) rfl rfl Try.func25 cl25 (same_self m _) ?_)
                  rintro e w70 ⟨rfl, hk⟩
                  replace B_g4 := kp_blk B_g4 hk (fun h => h)
                  replace B_gx := kp_blk B_gx hk (fun h => h)
                  replace B_g8 := kp_blk B_g8 hk (fun h => h)
                  replace K_0 := K_0.then_ hk (fun _ h => h.elim)
                  refine ⟨_, rfl, ?_⟩
                  clear hE a; intro a hE
                  refine ⟨⟨B_g4, B_gx, B_g8, trivial⟩, ?_⟩
                  refine d_take (v := Value.bool false) p5_33_43 ns5_33 (by kernel_rfl) (by kernel_rfl) (fun _ _ _ h => h) hE (wn_some g5_33_36 rfl rfl) rfl ⟨B_g4, B_gx, B_g8, trivial⟩ (fun W hS => (st_not rfl rfl)) rfl ?_
                  clear hE a; intro a hE
                  refine d_take (v := Value.bool false) p5_33_44 ns5_33 (by kernel_rfl) (by kernel_rfl) (fun _ _ _ h => h) hE (wn_some g5_33_33 rfl rfl) rfl ⟨B_g4, B_gx, B_g8, trivial⟩ (fun W hS => (st_pick rfl rfl)) rfl ?_
                  clear hE a; intro a hE
                  refine d_take (v := Value.bool false) p5_33_45 ns5_33 (by kernel_rfl) (by kernel_rfl) (fun _ _ _ h => h) hE (wn_some g5_33_28 rfl rfl) rfl ⟨B_g4, B_gx, B_g8, trivial⟩ (fun W hS => (st_pick rfl rfl)) rfl ?_
                  clear hE a; intro a hE
                  refine d_take (v := Value.bool false) p5_33_46 ns5_33 (by kernel_rfl) (by kernel_rfl) (fun _ _ _ h => h) hE wn_none rfl ⟨B_g4, B_gx, B_g8, trivial⟩ (fun W hS => (st_pick rfl rfl)) rfl ?_
                  clear hE a; intro a hE
                  refine d_end (by kernel_rfl) ?_
                  refine x_norm ?_
                  refine c_cond (t := false) hE rfl ?_
                  refine wp_skip ?_
                  refine x_normB ?_
                  refine x_norm ?_
                  refine c_regL R5_5_l ?_
                  refine p_cons (s_still p5_5_0 hE wn_none rfl (st_move rfl) ?_)
                  clear hE a; intro a hE
                  refine p_cons (s_still p5_5_1 hE wn_none rfl (st_add (z := (k : Int) + 1) rfl rfl (wr_i64 _ (by omega) (by omega))) ?_)
                  clear hE a; intro a hE
                  refine p_cons (s_still p5_5_2 hE wn_none rfl (st_assign rfl) ?_)
                  clear hE a; intro a hE
                  refine p_nil ?_
                  refine x_norm ?_
                  have hs9 : 0 ≤ s ∧ s ≤ 1099511627776 := hs
                  have hm9 : true = true → right m := fun _ => hmR
                  exact ⟨k + 1, by omega, gx, m, true, s, En.sub hE ⟨rfl, rfl, rfl, rfl, trivial⟩, by omega, hm9, hs9, B_g4, B_gx, z_0_gx, n_g4_gx, K_0⟩
                ·
                  obtain rfl : is = false := by simpa using hIS
                  refine c_reg R5_29_l ?_
                  refine p_cons (s_still p5_29_0 hE wn_none rfl (st_move rfl) ?_)
                  clear hE a; intro a hE
                  refine p_cons (s_call (xs := [Operand.tmp 93]) (args := [Value.pointer (some ⟨gx, 0, none⟩)]) p5_29_1 hE wn_none rfl rfl Try.func22 cl22 (Mean_false gx m s _ B_gx) ?_)
                  rintro e w71 ⟨rfl, hk⟩
                  replace B_g4 := kp_blk B_g4 hk (fun h => h)
                  replace B_gx := kp_blk B_gx hk (fun h => h)
                  replace B_g8 := kp_blk B_g8 hk (fun h => h)
                  replace K_0 := K_0.then_ hk (fun _ h => h.elim)
                  refine ⟨_, rfl, ?_⟩
                  clear hE a; intro a hE
                  refine p_cons (s_still p5_29_2 hE wn_none rfl (st_move rfl) ?_)
                  clear hE a; intro a hE
                  refine p_cons (s_still p5_29_3 hE wn_none rfl (st_extract rfl rfl) ?_)
                  clear hE a; intro a hE
                  refine p_cons (s_still p5_29_4 hE wn_none rfl (st_extract rfl rfl) ?_)
                  clear hE a; intro a hE
                  refine p_cons (s_still p5_29_5 hE wn_none rfl (st_assign rfl) ?_)
                  clear hE a; intro a hE
                  refine p_cons (s_still p5_29_6 hE wn_none rfl (st_assign rfl) ?_)
                  clear hE a; intro a hE
                  refine p_nil ?_
                  refine x_norm ?_
                  refine c_reg R5_30_l ?_
                  refine p_cons (s_still p5_30_0 hE wn_none rfl (st_assign rfl) ?_)
                  clear hE a; intro a hE
                  refine p_nil ?_
                  refine x_norm ?_
                  refine wp_seq ?_
                  refine c_reg R5_31_l ?_
                  refine p_cons (s_still p5_31_0 hE wn_none rfl (st_move rfl) ?_)
                  clear hE a; intro a hE
                  refine p_cons (s_still p5_31_1 hE wn_none rfl (st_nil rfl) ?_)
                  clear hE a; intro a hE
                  refine p_cons (s_still p5_31_2 hE wn_none rfl (st_fieldAddr Try.underlying41 rfl tS4 rfl rfl) ?_)
                  clear hE a; intro a hE
                  refine p_cons (s_still p5_31_3 hE wn_none rfl (st_load1 tA4 rfl ((blk_cell B_g4 1).trans rfl)) ?_)
                  clear hE a; intro a hE
                  refine p_nil ?_
                  refine x_norm ?_
                  refine c_cond (t := false) hE rfl ?_
                  refine wp_skip ?_
                  refine x_norm ?_
                  refine c_drawS (S := fun W => W.heap[g4]? = some (.cells #[Value.float .f64 m, Value.bool false, Value.int .i64 s] 41 (0, 0)) ∧ W.heap[gx]? = some (.cells #[Value.float .f64 m, Value.bool false, Value.int .i64 s] 38 (0, 0)) ∧ W.heap[g8]? = some (.cells #[Value.int .i64 kd, Value.int .i64 nn, Value.float .f64 fx] 43 (0, 0)) ∧ True) rfl rfl (listed := #[false, false, false, false, false, false, false, false, false, false, false, false, false, false, false, false, false, false, false, false, false, false, false, false, false, false, false, false, false, false, false, false, false, false, false, false, false, false, false, false, false, false, false, false, false, false, false]) rfl ?_
                  intro w72 hh hk
                  replace B_g4 := kp_blk B_g4 hk (fun h => h)
                  replace B_gx := kp_blk B_gx hk (fun h => h)
                  replace B_g8 := kp_blk B_g8 hk (fun h => h)
                  replace K_0 := K_0.then_ hk (fun _ h => h.elim)
                  clear hh hk
                  refine d_take (v := Value.bool true) p5_33_0 ns5_33 (by kernel_rfl) (by kernel_rfl) (fun _ _ _ h => h) hE wn_none rfl ⟨B_g4, B_gx, B_g8, trivial⟩ (fun W hS => (st_move rfl)) rfl ?_
                  clear hE a; intro a hE
                  refine d_take (v := Value.bool false) p5_33_1 ns5_33 (by kernel_rfl) (by kernel_rfl) (fun _ _ _ h => h) hE wn_none rfl ⟨B_g4, B_gx, B_g8, trivial⟩ (fun W hS => (st_not rfl rfl)) rfl ?_
                  clear hE a; intro a hE
                  refine d_take (v := Value.bool false) p5_33_2 ns5_33 (by kernel_rfl) (by kernel_rfl) (fun _ _ _ h => h) hE wn_none rfl ⟨B_g4, B_gx, B_g8, trivial⟩ (fun W hS => (st_move rfl)) rfl ?_
                  clear hE a; intro a hE
                  refine d_take (v := Value.pointer (some ⟨gx, 0, none⟩)) p5_33_3 ns5_33 (by kernel_rfl) (by kernel_rfl) (fun _ _ _ h => h) hE (wn_some g5_33_2 rfl rfl) rfl ⟨B_g4, B_gx, B_g8, trivial⟩ (fun W hS => (st_move rfl)) rfl ?_
                  clear hE a; intro a hE
                  refine d_take (v := Value.pointer (some ⟨g4, 0, none⟩)) p5_33_5 ns5_33 (by kernel_rfl) (by kernel_rfl) (fun _ _ _ h => h) hE (wn_some g5_33_2 rfl rfl) rfl ⟨B_g4, B_gx, B_g8, trivial⟩ (fun W hS => (st_move rfl)) rfl ?_
                  clear hE a; intro a hE
                  refine d_take (v := Value.pointer (some ⟨g4, 0, none⟩)) p5_33_6 ns5_33 (by kernel_rfl) (by kernel_rfl) (fun _ _ _ h => h) hE (wn_some g5_33_2 rfl rfl) rfl ⟨B_g4, B_gx, B_g8, trivial⟩ (fun W hS => (st_nil rfl)) rfl ?_
                  clear hE a; intro a hE
                  refine d_take (v := Value.pointer (some ⟨g4, 2, none⟩)) p5_33_7 ns5_33 (by kernel_rfl) (by kernel_rfl) (fun _ _ _ h => h) hE (wn_some g5_33_2 rfl rfl) rfl ⟨B_g4, B_gx, B_g8, trivial⟩ (fun W hS => (st_fieldAddr Try.underlying41 rfl tS3 rfl rfl)) rfl ?_
                  clear hE a; intro a hE
                  refine d_take (v := Value.int .i64 s) p5_33_8 ns5_33 (by kernel_rfl) (by kernel_rfl) (fun _ _ _ h => h) hE (wn_some g5_33_2 rfl rfl) rfl ⟨B_g4, B_gx, B_g8, trivial⟩ (fun W hS => (st_load1 tA3 rfl ((blk_cell hS.1 2).trans rfl))) rfl ?_
                  clear hE a; intro a hE
                  refine d_one (by kernel_rfl) rfl (s_call (xs := [Operand.tmp 109]) (args := [Value.pointer (some ⟨gx, 0, none⟩)]) p5_33_4 hE (wn_some g5_33_2 rfl rfl) rfl rfl Try.func23 cl23 (Sent_any gx m false s _ B_gx) ?_)
                  rintro e w73 ⟨rfl, hk⟩
                  replace B_g4 := kp_blk B_g4 hk (fun h => h)
                  replace B_gx := kp_blk B_gx hk (fun h => h)
                  replace B_g8 := kp_blk B_g8 hk (fun h => h)
                  replace K_0 := K_0.then_ hk (fun _ h => h.elim)
                  refine ⟨_, rfl, ?_⟩
                  clear hE a; intro a hE
                  refine ⟨⟨B_g4, B_gx, B_g8, trivial⟩, ?_⟩
                  refine d_take (v := Value.bool false) p5_33_9 ns5_33 (by kernel_rfl) (by kernel_rfl) (fun _ _ _ h => h) hE (wn_some g5_33_2 rfl rfl) rfl ⟨B_g4, B_gx, B_g8, trivial⟩ (fun W hS => (st_neq (b := false) rfl rfl (by simp))) rfl ?_
                  clear hE a; intro a hE
                  refine d_take (v := Value.bool false) p5_33_10 ns5_33 (by kernel_rfl) (by kernel_rfl) (fun _ _ _ h => h) hE wn_none rfl ⟨B_g4, B_gx, B_g8, trivial⟩ (fun W hS => (st_pick rfl rfl)) rfl ?_
                  clear hE a; intro a hE
                  refine d_take (v := Value.bool false) p5_33_11 ns5_33 (by kernel_rfl) (by kernel_rfl) (fun _ _ _ h => h) hE wn_none rfl ⟨B_g4, B_gx, B_g8, trivial⟩ (fun W hS => (st_move rfl)) rfl ?_
                  clear hE a; intro a hE
                  refine d_take (v := Value.pointer (some ⟨gx, 0, none⟩)) p5_33_12 ns5_33 (by kernel_rfl) (by kernel_rfl) (fun _ _ _ h => h) hE (wn_some g5_33_11 rfl rfl) rfl ⟨B_g4, B_gx, B_g8, trivial⟩ (fun W hS => (st_move rfl)) rfl ?_
                  clear hE a; intro a hE
                  refine d_take (v := Value.int .i64 65535) p5_33_14 ns5_33 (by kernel_rfl) (by kernel_rfl) (fun _ _ _ h => h) hE (wn_some g5_33_11 rfl rfl) rfl ⟨B_g4, B_gx, B_g8, trivial⟩ (fun W hS => (st_move rfl)) rfl ?_
                  clear hE a; intro a hE
                  refine d_one (by kernel_rfl) rfl (s_call (xs := [Operand.tmp 118]) (args := [Value.pointer (some ⟨gx, 0, none⟩)]) p5_33_13 hE (wn_some g5_33_11 rfl rfl) rfl rfl Try.func24 cl24 (LCost_false gx m s _ B_gx) ?_)
                  rintro e w74 ⟨rfl, hk⟩
                  replace B_g4 := kp_blk B_g4 hk (fun h => h)
                  replace B_gx := kp_blk B_gx hk (fun h => h)
                  replace B_g8 := kp_blk B_g8 hk (fun h => h)
                  replace K_0 := K_0.then_ hk (fun _ h => h.elim)
                  refine ⟨_, rfl, ?_⟩
                  clear hE a; intro a hE
                  refine ⟨⟨B_g4, B_gx, B_g8, trivial⟩, ?_⟩
                  refine d_take (v := Value.bool false) p5_33_15 ns5_33 (by kernel_rfl) (by kernel_rfl) (fun _ _ _ h => h) hE (wn_some g5_33_11 rfl rfl) rfl ⟨B_g4, B_gx, B_g8, trivial⟩ (fun W hS => (st_neq (b := false) rfl rfl (by decide))) rfl ?_
                  clear hE a; intro a hE
                  refine d_take (v := Value.bool false) p5_33_16 ns5_33 (by kernel_rfl) (by kernel_rfl) (fun _ _ _ h => h) hE wn_none rfl ⟨B_g4, B_gx, B_g8, trivial⟩ (fun W hS => (st_pick rfl rfl)) rfl ?_
                  clear hE a; intro a hE
                  refine d_take (v := Value.bool false) p5_33_17 ns5_33 (by kernel_rfl) (by kernel_rfl) (fun _ _ _ h => h) hE wn_none rfl ⟨B_g4, B_gx, B_g8, trivial⟩ (fun W hS => (st_move rfl)) rfl ?_
                  clear hE a; intro a hE
                  refine d_take (v := Value.pointer (some ⟨g4, 0, none⟩)) p5_33_18 ns5_33 (by kernel_rfl) (by kernel_rfl) (fun _ _ _ h => h) hE (wn_some g5_33_17 rfl rfl) rfl ⟨B_g4, B_gx, B_g8, trivial⟩ (fun W hS => (st_move rfl)) rfl ?_
                  clear hE a; intro a hE
                  refine d_take (v := Value.pointer (some ⟨g4, 0, none⟩)) p5_33_19 ns5_33 (by kernel_rfl) (by kernel_rfl) (fun _ _ _ h => h) hE (wn_some g5_33_17 rfl rfl) rfl ⟨B_g4, B_gx, B_g8, trivial⟩ (fun W hS => (st_nil rfl)) rfl ?_
                  clear hE a; intro a hE
                  refine d_take (v := Value.pointer (some ⟨g4, 1, none⟩)) p5_33_20 ns5_33 (by kernel_rfl) (by kernel_rfl) (fun _ _ _ h => h) hE (wn_some g5_33_17 rfl rfl) rfl ⟨B_g4, B_gx, B_g8, trivial⟩ (fun W hS => (st_fieldAddr Try.underlying41 rfl tS4 rfl rfl)) rfl ?_
                  clear hE a; intro a hE
                  refine d_take (v := Value.bool false) p5_33_21 ns5_33 (by kernel_rfl) (by kernel_rfl) (fun _ _ _ h => h) hE (wn_some g5_33_17 rfl rfl) rfl ⟨B_g4, B_gx, B_g8, trivial⟩ (fun W hS => (st_load1 tA4 rfl ((blk_cell hS.1 1).trans rfl))) rfl ?_
                  clear hE a; intro a hE
                  refine d_take (v := Value.bool true) p5_33_22 ns5_33 (by kernel_rfl) (by kernel_rfl) (fun _ _ _ h => h) hE (wn_some g5_33_17 rfl rfl) rfl ⟨B_g4, B_gx, B_g8, trivial⟩ (fun W hS => (st_not rfl rfl)) rfl ?_
                  clear hE a; intro a hE
                  refine d_take (v := Value.bool true) p5_33_23 ns5_33 (by kernel_rfl) (by kernel_rfl) (fun _ _ _ h => h) hE (wn_some g5_33_17 rfl rfl) rfl ⟨B_g4, B_gx, B_g8, trivial⟩ (fun W hS => (st_move rfl)) rfl ?_
                  clear hE a; intro a hE
                  refine d_take (v := Value.int .i64 8) p5_33_24 ns5_33 (by kernel_rfl) (by kernel_rfl) (fun _ _ _ h => h) hE (wn_some g5_33_23 rfl rfl) rfl ⟨B_g4, B_gx, B_g8, trivial⟩ (fun W hS => (st_move rfl)) rfl ?_
                  clear hE a; intro a hE
                  refine d_take (v := Value.bool false) p5_33_25 ns5_33 (by kernel_rfl) (by kernel_rfl) (fun _ _ _ h => h) hE (wn_some g5_33_23 rfl rfl) rfl ⟨B_g4, B_gx, B_g8, trivial⟩ (fun W hS => (st_neq (b := false) rfl rfl (by decide))) rfl ?_
                  clear hE a; intro a hE
                  refine d_take (v := Value.bool false) p5_33_26 ns5_33 (by kernel_rfl) (by kernel_rfl) (fun _ _ _ h => h) hE (wn_some g5_33_17 rfl rfl) rfl ⟨B_g4, B_gx, B_g8, trivial⟩ (fun W hS => (st_pick rfl rfl)) rfl ?_
                  clear hE a; intro a hE
                  refine d_take (v := Value.bool false) p5_33_27 ns5_33 (by kernel_rfl) (by kernel_rfl) (fun _ _ _ h => h) hE wn_none rfl ⟨B_g4, B_gx, B_g8, trivial⟩ (fun W hS => (st_pick rfl rfl)) rfl ?_
                  clear hE a; intro a hE
                  refine d_take (v := Value.bool false) p5_33_28 ns5_33 (by kernel_rfl) (by kernel_rfl) (fun _ _ _ h => h) hE wn_none rfl ⟨B_g4, B_gx, B_g8, trivial⟩ (fun W hS => (st_move rfl)) rfl ?_
                  clear hE a; intro a hE
                  refine d_take (v := Value.pointer (some ⟨g4, 0, none⟩)) p5_33_29 ns5_33 (by kernel_rfl) (by kernel_rfl) (fun _ _ _ h => h) hE (wn_some g5_33_28 rfl rfl) rfl ⟨B_g4, B_gx, B_g8, trivial⟩ (fun W hS => (st_move rfl)) rfl ?_
                  clear hE a; intro a hE
                  refine d_take (v := Value.pointer (some ⟨g4, 0, none⟩)) p5_33_30 ns5_33 (by kernel_rfl) (by kernel_rfl) (fun _ _ _ h => h) hE (wn_some g5_33_28 rfl rfl) rfl ⟨B_g4, B_gx, B_g8, trivial⟩ (fun W hS => (st_nil rfl)) rfl ?_
                  clear hE a; intro a hE
                  refine d_take (v := Value.pointer (some ⟨g4, 1, none⟩)) p5_33_31 ns5_33 (by kernel_rfl) (by kernel_rfl) (fun _ _ _ h => h) hE (wn_some g5_33_28 rfl rfl) rfl ⟨B_g4, B_gx, B_g8, trivial⟩ (fun W hS => (st_fieldAddr Try.underlying41 rfl tS4 rfl rfl)) rfl ?_
                  clear hE a; intro a hE
                  refine d_take (v := Value.bool false) p5_33_32 ns5_33 (by kernel_rfl) (by kernel_rfl) (fun _ _ _ h => h) hE (wn_some g5_33_28 rfl rfl) rfl ⟨B_g4, B_gx, B_g8, trivial⟩ (fun W hS => (st_load1 tA4 rfl ((blk_cell hS.1 1).trans rfl))) rfl ?_
                  clear hE a; intro a hE
                  refine d_take (v := Value.bool false) p5_33_33 ns5_33 (by kernel_rfl) (by kernel_rfl) (fun _ _ _ h => h) hE (wn_some g5_33_28 rfl rfl) rfl ⟨B_g4, B_gx, B_g8, trivial⟩ (fun W hS => (st_move rfl)) rfl ?_
                  clear hE a; intro a hE
                  refine d_skip p5_33_34 ns5_33 (by kernel_rfl) (by kernel_rfl) (fun _ _ _ h => h) hE (wn_some g5_33_33 rfl rfl) rfl ⟨B_g4, B_gx, B_g8, trivial⟩ rfl ?_
                  clear hE a; intro a hE
                  refine d_skip p5_33_35 ns5_33 (by kernel_rfl) (by kernel_rfl) (fun _ _ _ h => h) hE (wn_some g5_33_33 rfl rfl) rfl ⟨B_g4, B_gx, B_g8, trivial⟩ rfl ?_
                  clear hE a; intro a hE
                  refine d_skip p5_33_36 ns5_33 (by kernel_rfl) (by kernel_rfl) (fun _ _ _ h => h) hE (wn_some g5_33_33 rfl rfl) rfl ⟨B_g4, B_gx, B_g8, trivial⟩ rfl ?_
                  clear hE a; intro a hE
                  refine d_skip p5_33_37 ns5_33 (by kernel_rfl) (by kernel_rfl) (fun _ _ _ h => h) hE (wn_undef g5_33_36 rfl) rfl ⟨B_g4, B_gx, B_g8, trivial⟩ rfl ?_
                  clear hE a; intro a hE
                  refine d_skip p5_33_38 ns5_33 (by kernel_rfl) (by kernel_rfl) (fun _ _ _ h => h) hE (wn_undef g5_33_36 rfl) rfl ⟨B_g4, B_gx, B_g8, trivial⟩ rfl ?_
                  clear hE a; intro a hE
                  refine d_skip p5_33_39 ns5_33 (by kernel_rfl) (by kernel_rfl) (fun _ _ _ h => h) hE (wn_undef g5_33_36 rfl) rfl ⟨B_g4, B_gx, B_g8, trivial⟩ rfl ?_
                  clear hE a; intro a hE
                  refine d_skip p5_33_40 ns5_33 (by kernel_rfl) (by kernel_rfl) (fun _ _ _ h => h) hE (wn_undef g5_33_36 rfl) rfl ⟨B_g4, B_gx, B_g8, trivial⟩ rfl ?_
                  clear hE a; intro a hE
                  refine d_skip p5_33_41 ns5_33 (by kernel_rfl) (by kernel_rfl) (fun _ _ _ h => h) hE (wn_undef g5_33_36 rfl) rfl ⟨B_g4, B_gx, B_g8, trivial⟩ rfl ?_
                  clear hE a; intro a hE
                  refine d_skip p5_33_42 ns5_33 (by kernel_rfl) (by kernel_rfl) (fun _ _ _ h => h) hE (wn_undef g5_33_36 rfl) rfl ⟨B_g4, B_gx, B_g8, trivial⟩ rfl ?_
                  clear hE a; intro a hE
                  refine d_skip p5_33_43 ns5_33 (by kernel_rfl) (by kernel_rfl) (fun _ _ _ h => h) hE (wn_undef g5_33_36 rfl) rfl ⟨B_g4, B_gx, B_g8, trivial⟩ rfl ?_
                  clear hE a; intro a hE
                  refine d_skip p5_33_44 ns5_33 (by kernel_rfl) (by kernel_rfl) (fun _ _ _ h => h) hE (wn_some g5_33_33 rfl rfl) rfl ⟨B_g4, B_gx, B_g8, trivial⟩ rfl ?_
                  clear hE a; intro a hE
                  refine d_take (v := Value.bool false) p5_33_45 ns5_33 (by kernel_rfl) (by kernel_rfl) (fun _ _ _ h => h) hE (wn_some g5_33_28 rfl rfl) rfl ⟨B_g4, B_gx, B_g8, trivial⟩ (fun W hS => (st_pick rfl rfl)) rfl ?_
                  clear hE a; intro a hE
                  refine d_take (v := Value.bool false) p5_33_46 ns5_33 (by kernel_rfl) (by kernel_rfl) (fun _ _ _ h => h) hE wn_none rfl ⟨B_g4, B_gx, B_g8, trivial⟩ (fun W hS => (st_pick rfl rfl)) rfl ?_
                  clear hE a; intro a hE
                  refine d_end (by kernel_rfl) ?_
                  refine x_norm ?_
                  refine c_cond (t := false) hE rfl ?_
                  refine wp_skip ?_
                  refine x_normB ?_
                  refine x_norm ?_
                  refine c_regL R5_5_l ?_
                  refine p_cons (s_still p5_5_0 hE wn_none rfl (st_move rfl) ?_)
                  clear hE a; intro a hE
                  refine p_cons (s_still p5_5_1 hE wn_none rfl (st_add (z := (k : Int) + 1) rfl rfl (wr_i64 _ (by omega) (by omega))) ?_)
                  clear hE a; intro a hE
                  refine p_cons (s_still p5_5_2 hE wn_none rfl (st_assign rfl) ?_)
                  clear hE a; intro a hE
                  refine p_nil ?_
                  refine x_norm ?_
                  have hs9 : 0 ≤ s ∧ s ≤ 1099511627776 := hs
                  have hm9 : false = true → right m := fun h => by cases h
                  exact ⟨k + 1, by omega, gx, m, false, s, En.sub hE ⟨rfl, rfl, rfl, rfl, trivial⟩, by omega, hm9, hs9, B_g4, B_gx, z_0_gx, n_g4_gx, K_0⟩
            ·
              refine p_cons (s_still (v := Value.bool false) p5_23_0 hE wn_none rfl (st_eql rfl rfl (decide_eq_false hc52)) ?_)
              clear hE a; intro a hE
              refine p_cons (s_still p5_23_1 hE wn_none rfl (st_assign rfl) ?_)
              clear hE a; intro a hE
              refine p_nil ?_
              refine x_norm ?_
              refine c_cond (t := false) hE rfl ?_
              refine c_reg R5_9_l ?_
              refine p_cons (s_still p5_9_0 hE wn_none rfl (st_move rfl) ?_)
              clear hE a; intro a hE
              refine p_cons (s_call (xs := [Operand.tmp 36]) (args := [Value.pointer (some ⟨gx, 0, none⟩)]) p5_9_1 hE wn_none rfl rfl Try.func21 cl21 (Copy_any gx m is s _ B_gx) ?_)
              rintro e w77 ⟨g75, z76, rfl, B_g75, hk⟩
              have n_g4_g75 : g4 ≠ g75 := ne_new B_g4 z76
              have n_gx_g75 : gx ≠ g75 := ne_new B_gx z76
              have n_g8_g75 : g8 ≠ g75 := ne_new B_g8 z76
              have z_0_g75 := Nat.le_trans K_0.kept.1 z76
              replace B_g4 := kp_blk B_g4 hk (fun h => h)
              replace B_gx := kp_blk B_gx hk (fun h => h)
              replace B_g8 := kp_blk B_g8 hk (fun h => h)
              replace K_0 := K_0.then_ hk (fun _ h => h.elim)
              refine ⟨_, rfl, ?_⟩
              clear hE a; intro a hE
              refine p_cons (s_still p5_9_2 hE wn_none rfl (st_assign rfl) ?_)
              clear hE a; intro a hE
              refine p_nil ?_
              refine x_norm ?_
              refine wp_seq ?_
              refine c_reg R5_10_l ?_
              refine p_cons (s_still p5_10_0 hE wn_none rfl (st_move rfl) ?_)
              clear hE a; intro a hE
              refine p_cons (s_still p5_10_1 hE wn_none rfl (st_eqlP (b := false) tP34 rfl rfl rfl) ?_)
              clear hE a; intro a hE
              refine p_nil ?_
              refine x_norm ?_
              refine c_cond (t := false) hE rfl ?_
              refine wp_skip ?_
              refine x_norm ?_
              refine c_reg R5_12_l ?_
              refine p_cons (s_still p5_12_0 hE wn_none rfl (st_move rfl) ?_)
              clear hE a; intro a hE
              refine p_cons (s_call (xs := [Operand.tmp 40]) (args := [Value.pointer (some ⟨gx, 0, none⟩)]) p5_12_1 hE wn_none rfl rfl Try.func19 cl19 (Fail_ok gx m is s hm hs _ B_gx) ?_)
              rintro e w78 ⟨rfl, B_gx', hk⟩
              replace B_g4 := kp_blk B_g4 hk n_g4_gx
              replace B_g8 := kp_blk B_g8 hk (Ne.symm n_gx_g8)
              replace B_g75 := kp_blk B_g75 hk (Ne.symm n_gx_g75)
              replace K_0 := K_0.then_ hk (fun k h => by rw [show k = gx from h]; exact Or.inr z_0_gx)
              replace B_gx : w78.heap[gx]? = some (.cells #[Value.float .f64 (moveF is m 16), Value.bool true, Value.int .i64 (senF s (16 : Int))] 38 (0, 0)) := B_gx'
              clear B_gx'
              refine ⟨_, rfl, ?_⟩
              clear hE a; intro a hE
              refine p_nil ?_
              refine x_norm ?_
              refine c_regL R5_13_l ?_
              refine p_cons (s_still p5_13_0 hE wn_none rfl (st_move rfl) ?_)
              clear hE a; intro a hE
              refine p_cons (s_still p5_13_1 hE wn_none rfl (st_assign rfl) ?_)
              clear hE a; intro a hE
              refine p_nil ?_
              refine x_normB ?_
              refine x_norm ?_
              rcases Decidable.em (is = true) with hIS | hIS
              ·
                obtain rfl : is = true := hIS
                have hmR : right m := hm rfl
                refine c_reg R5_29_l ?_
                refine p_cons (s_still p5_29_0 hE wn_none rfl (st_move rfl) ?_)
                clear hE a; intro a hE
                refine p_cons (s_call (xs := [Operand.tmp 93]) (args := [Value.pointer (some ⟨g75, 0, none⟩)]) p5_29_1 hE wn_none rfl rfl Try.func22 cl22 (Mean_true g75 m s _ B_g75) ?_)
                rintro e w79 ⟨rfl, hk⟩
                replace B_g4 := kp_blk B_g4 hk (fun h => h)
                replace B_gx := kp_blk B_gx hk (fun h => h)
                replace B_g8 := kp_blk B_g8 hk (fun h => h)
                replace B_g75 := kp_blk B_g75 hk (fun h => h)
                replace K_0 := K_0.then_ hk (fun _ h => h.elim)
                refine ⟨_, rfl, ?_⟩
                clear hE a; intro a hE
                refine p_cons (s_still p5_29_2 hE wn_none rfl (st_move rfl) ?_)
                clear hE a; intro a hE
                refine p_cons (s_still p5_29_3 hE wn_none rfl (st_extract rfl rfl) ?_)
                clear hE a; intro a hE
                refine p_cons (s_still p5_29_4 hE wn_none rfl (st_extract rfl rfl) ?_)
                clear hE a; intro a hE
                refine p_cons (s_still p5_29_5 hE wn_none rfl (st_assign rfl) ?_)
                clear hE a; intro a hE
                refine p_cons (s_still p5_29_6 hE wn_none rfl (st_assign rfl) ?_)
                clear hE a; intro a hE
                refine p_nil ?_
                refine x_norm ?_
                refine c_reg R5_30_l ?_
                refine p_cons (s_still p5_30_0 hE wn_none rfl (st_assign rfl) ?_)
                clear hE a; intro a hE
                refine p_nil ?_
                refine x_norm ?_
                refine wp_seq ?_
                refine c_reg R5_31_l ?_
                refine p_cons (s_still p5_31_0 hE wn_none rfl (st_move rfl) ?_)
                clear hE a; intro a hE
                refine p_cons (s_still p5_31_1 hE wn_none rfl (st_nil rfl) ?_)
                clear hE a; intro a hE
                refine p_cons (s_still p5_31_2 hE wn_none rfl (st_fieldAddr Try.underlying41 rfl tS4 rfl rfl) ?_)
                clear hE a; intro a hE
                refine p_cons (s_still p5_31_3 hE wn_none rfl (st_load1 tA4 rfl ((blk_cell B_g4 1).trans rfl)) ?_)
                clear hE a; intro a hE
                refine p_nil ?_
                refine x_norm ?_
                refine c_cond (t := true) hE rfl ?_
                refine c_regL R5_32_l ?_
                refine p_cons (s_still p5_32_0 hE wn_none rfl (st_move rfl) ?_)
                clear hE a; intro a hE
                refine p_cons (s_still p5_32_1 hE wn_none rfl (st_nil rfl) ?_)
                clear hE a; intro a hE
                refine p_cons (s_still p5_32_2 hE wn_none rfl (st_fieldAddr Try.underlying41 rfl tS22 rfl rfl) ?_)
                clear hE a; intro a hE
                refine p_cons (s_still p5_32_3 hE wn_none rfl (st_load1 tA22 rfl ((blk_cell B_g4 0).trans rfl)) ?_)
                clear hE a; intro a hE
                refine p_cons (s_call (xs := [Operand.tmp 104]) (args := [Value.float .f64 m]) p5_32_4 hE wn_none rfl rfl Try.func15 cl15 (rcost_any m hmR _ rfl _) ?_)
                rintro e w80 ⟨rfl, hk⟩
                replace B_g4 := kp_blk B_g4 hk (fun h => h)
                replace B_gx := kp_blk B_gx hk (fun h => h)
                replace B_g8 := kp_blk B_g8 hk (fun h => h)
                replace B_g75 := kp_blk B_g75 hk (fun h => h)
                replace K_0 := K_0.then_ hk (fun _ h => h.elim)
                refine ⟨_, rfl, ?_⟩
                clear hE a; intro a hE
                refine p_cons (s_still p5_32_5 hE wn_none rfl (st_assign rfl) ?_)
                clear hE a; intro a hE
                refine p_nil ?_
                refine x_norm ?_
                refine c_drawS (S := fun W => W.heap[g4]? = some (.cells #[Value.float .f64 m, Value.bool true, Value.int .i64 s] 41 (0, 0)) ∧ W.heap[gx]? = some (.cells #[Value.float .f64 (moveF true m 16), Value.bool true, Value.int .i64 (senF s (16 : Int))] 38 (0, 0)) ∧ W.heap[g8]? = some (.cells #[Value.int .i64 kd, Value.int .i64 nn, Value.float .f64 fx] 43 (0, 0)) ∧ W.heap[g75]? = some (.cells #[Value.float .f64 m, Value.bool true, Value.int .i64 s] 38 (0, 0)) ∧ True) rfl rfl (listed := #[false, false, false, false, false, false, false, false, false, false, false, false, false, false, false, false, false, false, false, false, false, false, false, false, false, false, false, false, false, false, false, false, false, false, false, false, false, false, false, false, false, false, false, false, false, false, false]) rfl ?_
                intro w81 hh hk
                replace B_g4 := kp_blk B_g4 hk (fun h => h)
                replace B_gx := kp_blk B_gx hk (fun h => h)
                replace B_g8 := kp_blk B_g8 hk (fun h => h)
                replace B_g75 := kp_blk B_g75 hk (fun h => h)
                replace K_0 := K_0.then_ hk (fun _ h => h.elim)
                clear hh hk
                refine d_take (v := Value.bool true) p5_33_0 ns5_33 (by kernel_rfl) (by kernel_rfl) (fun _ _ _ h => h) hE wn_none rfl ⟨B_g4, B_gx, B_g8, B_g75, trivial⟩ (fun W hS => (st_move rfl)) rfl ?_
                clear hE a; intro a hE
                refine d_take (v := Value.bool false) p5_33_1 ns5_33 (by kernel_rfl) (by kernel_rfl) (fun _ _ _ h => h) hE wn_none rfl ⟨B_g4, B_gx, B_g8, B_g75, trivial⟩ (fun W hS => (st_not rfl rfl)) rfl ?_
                clear hE a; intro a hE
                refine d_take (v := Value.bool false) p5_33_2 ns5_33 (by kernel_rfl) (by kernel_rfl) (fun _ _ _ h => h) hE wn_none rfl ⟨B_g4, B_gx, B_g8, B_g75, trivial⟩ (fun W hS => (st_move rfl)) rfl ?_
                clear hE a; intro a hE
                refine d_take (v := Value.pointer (some ⟨g75, 0, none⟩)) p5_33_3 ns5_33 (by kernel_rfl) (by kernel_rfl) (fun _ _ _ h => h) hE (wn_some g5_33_2 rfl rfl) rfl ⟨B_g4, B_gx, B_g8, B_g75, trivial⟩ (fun W hS => (st_move rfl)) rfl ?_
                clear hE a; intro a hE
                refine d_take (v := Value.pointer (some ⟨g4, 0, none⟩)) p5_33_5 ns5_33 (by kernel_rfl) (by kernel_rfl) (fun _ _ _ h => h) hE (wn_some g5_33_2 rfl rfl) rfl ⟨B_g4, B_gx, B_g8, B_g75, trivial⟩ (fun W hS => (st_move rfl)) rfl ?_
                clear hE a; intro a hE
                refine d_take (v := Value.pointer (some ⟨g4, 0, none⟩)) p5_33_6 ns5_33 (by kernel_rfl) (by kernel_rfl) (fun _ _ _ h => h) hE (wn_some g5_33_2 rfl rfl) rfl ⟨B_g4, B_gx, B_g8, B_g75, trivial⟩ (fun W hS => (st_nil rfl)) rfl ?_
                clear hE a; intro a hE
                refine d_take (v := Value.pointer (some ⟨g4, 2, none⟩)) p5_33_7 ns5_33 (by kernel_rfl) (by kernel_rfl) (fun _ _ _ h => h) hE (wn_some g5_33_2 rfl rfl) rfl ⟨B_g4, B_gx, B_g8, B_g75, trivial⟩ (fun W hS => (st_fieldAddr Try.underlying41 rfl tS3 rfl rfl)) rfl ?_
                clear hE a; intro a hE
                refine d_take (v := Value.int .i64 s) p5_33_8 ns5_33 (by kernel_rfl) (by kernel_rfl) (fun _ _ _ h => h) hE (wn_some g5_33_2 rfl rfl) rfl ⟨B_g4, B_gx, B_g8, B_g75, trivial⟩ (fun W hS => (st_load1 tA3 rfl ((blk_cell hS.1 2).trans rfl))) rfl ?_
                clear hE a; intro a hE
                refine d_one (by kernel_rfl) rfl (s_call (xs := [Operand.tmp 109]) (args := [Value.pointer (some ⟨g75, 0, none⟩)]) p5_33_4 hE (wn_some g5_33_2 rfl rfl) rfl rfl Try.func23 cl23 (Sent_any g75 m true s _ B_g75) ?_)
                rintro e w82 ⟨rfl, hk⟩
                replace B_g4 := kp_blk B_g4 hk (fun h => h)
                replace B_gx := kp_blk B_gx hk (fun h => h)
                replace B_g8 := kp_blk B_g8 hk (fun h => h)
                replace B_g75 := kp_blk B_g75 hk (fun h => h)
                replace K_0 := K_0.then_ hk (fun _ h => h.elim)
                refine ⟨_, rfl, ?_⟩
                clear hE a; intro a hE
                refine ⟨⟨B_g4, B_gx, B_g8, B_g75, trivial⟩, ?_⟩
                refine d_take (v := Value.bool false) p5_33_9 ns5_33 (by kernel_rfl) (by kernel_rfl) (fun _ _ _ h => h) hE (wn_some g5_33_2 rfl rfl) rfl ⟨B_g4, B_gx, B_g8, B_g75, trivial⟩ (fun W hS => (st_neq (b := false) rfl rfl (by simp))) rfl ?_
                clear hE a; intro a hE
                refine d_take (v := Value.bool false) p5_33_10 ns5_33 (by kernel_rfl) (by kernel_rfl) (fun _ _ _ h => h) hE wn_none rfl ⟨B_g4, B_gx, B_g8, B_g75, trivial⟩ (fun W hS => (st_pick rfl rfl)) rfl ?_
                clear hE a; intro a hE
                refine d_take (v := Value.bool false) p5_33_11 ns5_33 (by kernel_rfl) (by kernel_rfl) (fun _ _ _ h => h) hE wn_none rfl ⟨B_g4, B_gx, B_g8, B_g75, trivial⟩ (fun W hS => (st_move rfl)) rfl ?_
                clear hE a; intro a hE
                refine d_take (v := Value.pointer (some ⟨g75, 0, none⟩)) p5_33_12 ns5_33 (by kernel_rfl) (by kernel_rfl) (fun _ _ _ h => h) hE (wn_some g5_33_11 rfl rfl) rfl ⟨B_g4, B_gx, B_g8, B_g75, trivial⟩ (fun W hS => (st_move rfl)) rfl ?_
                clear hE a; intro a hE
                refine d_take (v := Value.int .i64 (costV m)) p5_33_14 ns5_33 (by kernel_rfl) (by kernel_rfl) (fun _ _ _ h => h) hE (wn_some g5_33_11 rfl rfl) rfl ⟨B_g4, B_gx, B_g8, B_g75, trivial⟩ (fun W hS => (st_move rfl)) rfl ?_
                clear hE a; intro a hE
                refine d_one (by kernel_rfl) rfl (s_call (xs := [Operand.tmp 118]) (args := [Value.pointer (some ⟨g75, 0, none⟩)]) p5_33_13 hE (wn_some g5_33_11 rfl rfl) rfl rfl Try.func24 cl24 (LCost_true g75 m s hmR _ rfl _ B_g75) ?_)
                rintro e w83 ⟨rfl, hk⟩
                replace B_g4 := kp_blk B_g4 hk (fun h => h)
                replace B_gx := kp_blk B_gx hk (fun h => h)
                replace B_g8 := kp_blk B_g8 hk (fun h => h)
                replace B_g75 := kp_blk B_g75 hk (fun h => h)
                replace K_0 := K_0.then_ hk (fun _ h => h.elim)
                refine ⟨_, rfl, ?_⟩
                clear hE a; intro a hE
                refine ⟨⟨B_g4, B_gx, B_g8, B_g75, trivial⟩, ?_⟩
                refine d_take (v := Value.bool false) p5_33_15 ns5_33 (by kernel_rfl) (by kernel_rfl) (fun _ _ _ h => h) hE (wn_some g5_33_11 rfl rfl) rfl ⟨B_g4, B_gx, B_g8, B_g75, trivial⟩ (fun W hS => (st_neq (b := false) rfl rfl (by simp))) rfl ?_
                clear hE a; intro a hE
                refine d_take (v := Value.bool false) p5_33_16 ns5_33 (by kernel_rfl) (by kernel_rfl) (fun _ _ _ h => h) hE wn_none rfl ⟨B_g4, B_gx, B_g8, B_g75, trivial⟩ (fun W hS => (st_pick rfl rfl)) rfl ?_
                clear hE a; intro a hE
                refine d_take (v := Value.bool false) p5_33_17 ns5_33 (by kernel_rfl) (by kernel_rfl) (fun _ _ _ h => h) hE wn_none rfl ⟨B_g4, B_gx, B_g8, B_g75, trivial⟩ (fun W hS => (st_move rfl)) rfl ?_
                clear hE a; intro a hE
                refine d_take (v := Value.pointer (some ⟨g4, 0, none⟩)) p5_33_18 ns5_33 (by kernel_rfl) (by kernel_rfl) (fun _ _ _ h => h) hE (wn_some g5_33_17 rfl rfl) rfl ⟨B_g4, B_gx, B_g8, B_g75, trivial⟩ (fun W hS => (st_move rfl)) rfl ?_
                clear hE a; intro a hE
                refine d_take (v := Value.pointer (some ⟨g4, 0, none⟩)) p5_33_19 ns5_33 (by kernel_rfl) (by kernel_rfl) (fun _ _ _ h => h) hE (wn_some g5_33_17 rfl rfl) rfl ⟨B_g4, B_gx, B_g8, B_g75, trivial⟩ (fun W hS => (st_nil rfl)) rfl ?_
                clear hE a; intro a hE
                refine d_take (v := Value.pointer (some ⟨g4, 1, none⟩)) p5_33_20 ns5_33 (by kernel_rfl) (by kernel_rfl) (fun _ _ _ h => h) hE (wn_some g5_33_17 rfl rfl) rfl ⟨B_g4, B_gx, B_g8, B_g75, trivial⟩ (fun W hS => (st_fieldAddr Try.underlying41 rfl tS4 rfl rfl)) rfl ?_
                clear hE a; intro a hE
                refine d_take (v := Value.bool true) p5_33_21 ns5_33 (by kernel_rfl) (by kernel_rfl) (fun _ _ _ h => h) hE (wn_some g5_33_17 rfl rfl) rfl ⟨B_g4, B_gx, B_g8, B_g75, trivial⟩ (fun W hS => (st_load1 tA4 rfl ((blk_cell hS.1 1).trans rfl))) rfl ?_
                clear hE a; intro a hE
                refine d_take (v := Value.bool false) p5_33_22 ns5_33 (by kernel_rfl) (by kernel_rfl) (fun _ _ _ h => h) hE (wn_some g5_33_17 rfl rfl) rfl ⟨B_g4, B_gx, B_g8, B_g75, trivial⟩ (fun W hS => (st_not rfl rfl)) rfl ?_
                clear hE a; intro a hE
                refine d_take (v := Value.bool false) p5_33_23 ns5_33 (by kernel_rfl) (by kernel_rfl) (fun _ _ _ h => h) hE (wn_some g5_33_17 rfl rfl) rfl ⟨B_g4, B_gx, B_g8, B_g75, trivial⟩ (fun W hS => (st_move rfl)) rfl ?_
                clear hE a; intro a hE
                refine d_skip p5_33_24 ns5_33 (by kernel_rfl) (by kernel_rfl) (fun _ _ _ h => h) hE (wn_some g5_33_23 rfl rfl) rfl ⟨B_g4, B_gx, B_g8, B_g75, trivial⟩ rfl ?_
                clear hE a; intro a hE
                refine d_skip p5_33_25 ns5_33 (by kernel_rfl) (by kernel_rfl) (fun _ _ _ h => h) hE (wn_some g5_33_23 rfl rfl) rfl ⟨B_g4, B_gx, B_g8, B_g75, trivial⟩ rfl ?_
                clear hE a; intro a hE
                refine d_take (v := Value.bool false) p5_33_26 ns5_33 (by kernel_rfl) (by kernel_rfl) (fun _ _ _ h => h) hE (wn_some g5_33_17 rfl rfl) rfl ⟨B_g4, B_gx, B_g8, B_g75, trivial⟩ (fun W hS => (st_pick rfl rfl)) rfl ?_
                clear hE a; intro a hE
                refine d_take (v := Value.bool false) p5_33_27 ns5_33 (by kernel_rfl) (by kernel_rfl) (fun _ _ _ h => h) hE wn_none rfl ⟨B_g4, B_gx, B_g8, B_g75, trivial⟩ (fun W hS => (st_pick rfl rfl)) rfl ?_
                clear hE a; intro a hE
                refine d_take (v := Value.bool false) p5_33_28 ns5_33 (by kernel_rfl) (by kernel_rfl) (fun _ _ _ h => h) hE wn_none rfl ⟨B_g4, B_gx, B_g8, B_g75, trivial⟩ (fun W hS => (st_move rfl)) rfl ?_
                clear hE a; intro a hE
                refine d_take (v := Value.pointer (some ⟨g4, 0, none⟩)) p5_33_29 ns5_33 (by kernel_rfl) (by kernel_rfl) (fun _ _ _ h => h) hE (wn_some g5_33_28 rfl rfl) rfl ⟨B_g4, B_gx, B_g8, B_g75, trivial⟩ (fun W hS => (st_move rfl)) rfl ?_
                clear hE a; intro a hE
                refine d_take (v := Value.pointer (some ⟨g4, 0, none⟩)) p5_33_30 ns5_33 (by kernel_rfl) (by kernel_rfl) (fun _ _ _ h => h) hE (wn_some g5_33_28 rfl rfl) rfl ⟨B_g4, B_gx, B_g8, B_g75, trivial⟩ (fun W hS => (st_nil rfl)) rfl ?_
                clear hE a; intro a hE
                refine d_take (v := Value.pointer (some ⟨g4, 1, none⟩)) p5_33_31 ns5_33 (by kernel_rfl) (by kernel_rfl) (fun _ _ _ h => h) hE (wn_some g5_33_28 rfl rfl) rfl ⟨B_g4, B_gx, B_g8, B_g75, trivial⟩ (fun W hS => (st_fieldAddr Try.underlying41 rfl tS4 rfl rfl)) rfl ?_
                clear hE a; intro a hE
                refine d_take (v := Value.bool true) p5_33_32 ns5_33 (by kernel_rfl) (by kernel_rfl) (fun _ _ _ h => h) hE (wn_some g5_33_28 rfl rfl) rfl ⟨B_g4, B_gx, B_g8, B_g75, trivial⟩ (fun W hS => (st_load1 tA4 rfl ((blk_cell hS.1 1).trans rfl))) rfl ?_
                clear hE a; intro a hE
                refine d_take (v := Value.bool true) p5_33_33 ns5_33 (by kernel_rfl) (by kernel_rfl) (fun _ _ _ h => h) hE (wn_some g5_33_28 rfl rfl) rfl ⟨B_g4, B_gx, B_g8, B_g75, trivial⟩ (fun W hS => (st_move rfl)) rfl ?_
                clear hE a; intro a hE
                refine d_take (v := Value.int .i64 0) p5_33_34 ns5_33 (by kernel_rfl) (by kernel_rfl) (fun _ _ _ h => h) hE (wn_some g5_33_33 rfl rfl) rfl ⟨B_g4, B_gx, B_g8, B_g75, trivial⟩ (fun W hS => (st_move rfl)) rfl ?_
                clear hE a; intro a hE
                refine d_take (v := Value.bool false) p5_33_35 ns5_33 (by kernel_rfl) (by kernel_rfl) (fun _ _ _ h => h) hE (wn_some g5_33_33 rfl rfl) rfl ⟨B_g4, B_gx, B_g8, B_g75, trivial⟩ (fun W hS => (st_neq (b := false) rfl rfl (by decide))) rfl ?_
                clear hE a; intro a hE
                refine d_take (v := Value.bool false) p5_33_36 ns5_33 (by kernel_rfl) (by kernel_rfl) (fun _ _ _ h => h) hE (wn_some g5_33_33 rfl rfl) rfl ⟨B_g4, B_gx, B_g8, B_g75, trivial⟩ (fun W hS => (st_move rfl)) rfl ?_
                clear hE a; intro a hE
                refine d_take (v := Value.float .f64 m) p5_33_37 ns5_33 (by kernel_rfl) (by kernel_rfl) (fun _ _ _ h => h) hE (wn_some g5_33_36 rfl rfl) rfl ⟨B_g4, B_gx, B_g8, B_g75, trivial⟩ (fun W hS => (st_move rfl)) rfl ?_
                clear hE a; intro a hE
                refine d_take (v := Value.pointer (some ⟨g4, 0, none⟩)) p5_33_38 ns5_33 (by kernel_rfl) (by kernel_rfl) (fun _ _ _ h => h) hE (wn_some g5_33_36 rfl rfl) rfl ⟨B_g4, B_gx, B_g8, B_g75, trivial⟩ (fun W hS => (st_move rfl)) rfl ?_
                clear hE a; intro a hE
                refine d_take (v := Value.pointer (some ⟨g4, 0, none⟩)) p5_33_39 ns5_33 (by kernel_rfl) (by kernel_rfl) (fun _ _ _ h => h) hE (wn_some g5_33_36 rfl rfl) rfl ⟨B_g4, B_gx, B_g8, B_g75, trivial⟩ (fun W hS => (st_nil rfl)) rfl ?_
                clear hE a; intro a hE
                refine d_take (v := Value.pointer (some ⟨g4, 0, none⟩)) p5_33_40 ns5_33 (by kernel_rfl) (by kernel_rfl) (fun _ _ _ h => h) hE (wn_some g5_33_36 rfl rfl) rfl ⟨B_g4, B_gx, B_g8, B_g75, trivial⟩ (fun W hS => (st_fieldAddr Try.underlying41 rfl tS22 rfl rfl)) rfl ?_
                clear hE a; intro a hE
                refine d_take (v := Value.float .f64 m) p5_33_41 ns5_33 (by kernel_rfl) (by kernel_rfl) (fun _ _ _ h => h) hE (wn_some g5_33_36 rfl rfl) rfl ⟨B_g4, B_gx, B_g8, B_g75, trivial⟩ (fun W hS => (st_load1 tA22 rfl ((blk_cell hS.1 0).trans rfl))) rfl ?_
                clear hE a; intro a hE
                refine d_one (by kernel_rfl) rfl (s_call (xs := [Operand.tmp 143, Operand.tmp 147]) (args := [Value.float .f64 m, Value.float .f64 m]) p5_33_42 hE (wn_some g5_33_36 rfl rfl) rfl rfl Try.func25 cl25 (same_self m _) ?_)
                rintro e w84 ⟨rfl, hk⟩
                replace B_g4 := kp_blk B_g4 hk (fun h => h)
                replace B_gx := kp_blk B_gx hk (fun h => h)
                replace B_g8 := kp_blk B_g8 hk (fun h => h)
                replace B_g75 := kp_blk B_g75 hk (fun h => h)
                replace K_0 := K_0.then_ hk (fun _ h => h.elim)
                refine ⟨_, rfl, ?_⟩
                clear hE a; intro a hE
                refine ⟨⟨B_g4, B_gx, B_g8, B_g75, trivial⟩, ?_⟩
                refine d_take (v := Value.bool false) p5_33_43 ns5_33 (by kernel_rfl) (by kernel_rfl) (fun _ _ _ h => h) hE (wn_some g5_33_36 rfl rfl) rfl ⟨B_g4, B_gx, B_g8, B_g75, trivial⟩ (fun W hS => (st_not rfl rfl)) rfl ?_
                clear hE a; intro a hE
                refine d_take (v := Value.bool false) p5_33_44 ns5_33 (by kernel_rfl) (by kernel_rfl) (fun _ _ _ h => h) hE (wn_some g5_33_33 rfl rfl) rfl ⟨B_g4, B_gx, B_g8, B_g75, trivial⟩ (fun W hS => (st_pick rfl rfl)) rfl ?_
                clear hE a; intro a hE
                refine d_take (v := Value.bool false) p5_33_45 ns5_33 (by kernel_rfl) (by kernel_rfl) (fun _ _ _ h => h) hE (wn_some g5_33_28 rfl rfl) rfl ⟨B_g4, B_gx, B_g8, B_g75, trivial⟩ (fun W hS => (st_pick rfl rfl)) rfl ?_
                clear hE a; intro a hE
                refine d_take (v := Value.bool false) p5_33_46 ns5_33 (by kernel_rfl) (by kernel_rfl) (fun _ _ _ h => h) hE wn_none rfl ⟨B_g4, B_gx, B_g8, B_g75, trivial⟩ (fun W hS => (st_pick rfl rfl)) rfl ?_
                clear hE a; intro a hE
                refine d_end (by kernel_rfl) ?_
                refine x_norm ?_
                refine c_cond (t := false) hE rfl ?_
                refine wp_skip ?_
                refine x_normB ?_
                refine x_norm ?_
                refine c_regL R5_5_l ?_
                refine p_cons (s_still p5_5_0 hE wn_none rfl (st_move rfl) ?_)
                clear hE a; intro a hE
                refine p_cons (s_still p5_5_1 hE wn_none rfl (st_add (z := (k : Int) + 1) rfl rfl (wr_i64 _ (by omega) (by omega))) ?_)
                clear hE a; intro a hE
                refine p_cons (s_still p5_5_2 hE wn_none rfl (st_assign rfl) ?_)
                clear hE a; intro a hE
                refine p_nil ?_
                refine x_norm ?_
                have hs9 : 0 ≤ s ∧ s ≤ 1099511627776 := hs
                have hm9 : true = true → right m := fun _ => hmR
                exact ⟨k + 1, by omega, g75, m, true, s, En.sub hE ⟨rfl, rfl, rfl, rfl, trivial⟩, by omega, hm9, hs9, B_g4, B_g75, z_0_g75, n_g4_g75, K_0⟩
              ·
                obtain rfl : is = false := by simpa using hIS
                refine c_reg R5_29_l ?_
                refine p_cons (s_still p5_29_0 hE wn_none rfl (st_move rfl) ?_)
                clear hE a; intro a hE
                refine p_cons (s_call (xs := [Operand.tmp 93]) (args := [Value.pointer (some ⟨g75, 0, none⟩)]) p5_29_1 hE wn_none rfl rfl Try.func22 cl22 (Mean_false g75 m s _ B_g75) ?_)
                rintro e w85 ⟨rfl, hk⟩
                replace B_g4 := kp_blk B_g4 hk (fun h => h)
                replace B_gx := kp_blk B_gx hk (fun h => h)
                replace B_g8 := kp_blk B_g8 hk (fun h => h)
                replace B_g75 := kp_blk B_g75 hk (fun h => h)
                replace K_0 := K_0.then_ hk (fun _ h => h.elim)
                refine ⟨_, rfl, ?_⟩
                clear hE a; intro a hE
                refine p_cons (s_still p5_29_2 hE wn_none rfl (st_move rfl) ?_)
                clear hE a; intro a hE
                refine p_cons (s_still p5_29_3 hE wn_none rfl (st_extract rfl rfl) ?_)
                clear hE a; intro a hE
                refine p_cons (s_still p5_29_4 hE wn_none rfl (st_extract rfl rfl) ?_)
                clear hE a; intro a hE
                refine p_cons (s_still p5_29_5 hE wn_none rfl (st_assign rfl) ?_)
                clear hE a; intro a hE
                refine p_cons (s_still p5_29_6 hE wn_none rfl (st_assign rfl) ?_)
                clear hE a; intro a hE
                refine p_nil ?_
                refine x_norm ?_
                refine c_reg R5_30_l ?_
                refine p_cons (s_still p5_30_0 hE wn_none rfl (st_assign rfl) ?_)
                clear hE a; intro a hE
                refine p_nil ?_
                refine x_norm ?_
                refine wp_seq ?_
                refine c_reg R5_31_l ?_
                refine p_cons (s_still p5_31_0 hE wn_none rfl (st_move rfl) ?_)
                clear hE a; intro a hE
                refine p_cons (s_still p5_31_1 hE wn_none rfl (st_nil rfl) ?_)
                clear hE a; intro a hE
                refine p_cons (s_still p5_31_2 hE wn_none rfl (st_fieldAddr Try.underlying41 rfl tS4 rfl rfl) ?_)
                clear hE a; intro a hE
                refine p_cons (s_still p5_31_3 hE wn_none rfl (st_load1 tA4 rfl ((blk_cell B_g4 1).trans rfl)) ?_)
                clear hE a; intro a hE
                refine p_nil ?_
                refine x_norm ?_
                refine c_cond (t := false) hE rfl ?_
                refine wp_skip ?_
                refine x_norm ?_
                refine c_drawS (S := fun W => W.heap[g4]? = some (.cells #[Value.float .f64 m, Value.bool false, Value.int .i64 s] 41 (0, 0)) ∧ W.heap[gx]? = some (.cells #[Value.float .f64 (moveF false m 16), Value.bool true, Value.int .i64 (senF s (16 : Int))] 38 (0, 0)) ∧ W.heap[g8]? = some (.cells #[Value.int .i64 kd, Value.int .i64 nn, Value.float .f64 fx] 43 (0, 0)) ∧ W.heap[g75]? = some (.cells #[Value.float .f64 m, Value.bool false, Value.int .i64 s] 38 (0, 0)) ∧ True) rfl rfl (listed := #[false, false, false, false, false, false, false, false, false, false, false, false, false, false, false, false, false, false, false, false, false, false, false, false, false, false, false, false, false, false, false, false, false, false, false, false, false, false, false, false, false, false, false, false, false, false, false]) rfl ?_
                intro w86 hh hk
                replace B_g4 := kp_blk B_g4 hk (fun h => h)
                replace B_gx := kp_blk B_gx hk (fun h => h)
                replace B_g8 := kp_blk B_g8 hk (fun h => h)
                replace B_g75 := kp_blk B_g75 hk (fun h => h)
                replace K_0 := K_0.then_ hk (fun _ h => h.elim)
                clear hh hk
                refine d_take (v := Value.bool true) p5_33_0 ns5_33 (by kernel_rfl) (by kernel_rfl) (fun _ _ _ h => h) hE wn_none rfl ⟨B_g4, B_gx, B_g8, B_g75, trivial⟩ (fun W hS => (st_move rfl)) rfl ?_
                clear hE a; intro a hE
                refine d_take (v := Value.bool false) p5_33_1 ns5_33 (by kernel_rfl) (by kernel_rfl) (fun _ _ _ h => h) hE wn_none rfl ⟨B_g4, B_gx, B_g8, B_g75, trivial⟩ (fun W hS => (st_not rfl rfl)) rfl ?_
                clear hE a; intro a hE
                refine d_take (v := Value.bool false) p5_33_2 ns5_33 (by kernel_rfl) (by kernel_rfl) (fun _ _ _ h => h) hE wn_none rfl ⟨B_g4, B_gx, B_g8, B_g75, trivial⟩ (fun W hS => (st_move rfl)) rfl ?_
                clear hE a; intro a hE
                refine d_take (v := Value.pointer (some ⟨g75, 0, none⟩)) p5_33_3 ns5_33 (by kernel_rfl) (by kernel_rfl) (fun _ _ _ h => h) hE (wn_some g5_33_2 rfl rfl) rfl ⟨B_g4, B_gx, B_g8, B_g75, trivial⟩ (fun W hS => (st_move rfl)) rfl ?_
                clear hE a; intro a hE
                refine d_take (v := Value.pointer (some ⟨g4, 0, none⟩)) p5_33_5 ns5_33 (by kernel_rfl) (by kernel_rfl) (fun _ _ _ h => h) hE (wn_some g5_33_2 rfl rfl) rfl ⟨B_g4, B_gx, B_g8, B_g75, trivial⟩ (fun W hS => (st_move rfl)) rfl ?_
                clear hE a; intro a hE
                refine d_take (v := Value.pointer (some ⟨g4, 0, none⟩)) p5_33_6 ns5_33 (by kernel_rfl) (by kernel_rfl) (fun _ _ _ h => h) hE (wn_some g5_33_2 rfl rfl) rfl ⟨B_g4, B_gx, B_g8, B_g75, trivial⟩ (fun W hS => (st_nil rfl)) rfl ?_
                clear hE a; intro a hE
                refine d_take (v := Value.pointer (some ⟨g4, 2, none⟩)) p5_33_7 ns5_33 (by kernel_rfl) (by kernel_rfl) (fun _ _ _ h => h) hE (wn_some g5_33_2 rfl rfl) rfl ⟨B_g4, B_gx, B_g8, B_g75, trivial⟩ (fun W hS => (st_fieldAddr Try.underlying41 rfl tS3 rfl rfl)) rfl ?_
                clear hE a; intro a hE
                refine d_take (v := Value.int .i64 s) p5_33_8 ns5_33 (by kernel_rfl) (by kernel_rfl) (fun _ _ _ h => h) hE (wn_some g5_33_2 rfl rfl) rfl ⟨B_g4, B_gx, B_g8, B_g75, trivial⟩ (fun W hS => (st_load1 tA3 rfl ((blk_cell hS.1 2).trans rfl))) rfl ?_
                clear hE a; intro a hE
                refine d_one (by kernel_rfl) rfl (s_call (xs := [Operand.tmp 109]) (args := [Value.pointer (some ⟨g75, 0, none⟩)]) p5_33_4 hE (wn_some g5_33_2 rfl rfl) rfl rfl Try.func23 cl23 (Sent_any g75 m false s _ B_g75) ?_)
                rintro e w87 ⟨rfl, hk⟩
                replace B_g4 := kp_blk B_g4 hk (fun h => h)
                replace B_gx := kp_blk B_gx hk (fun h => h)
                replace B_g8 := kp_blk B_g8 hk (fun h => h)
                replace B_g75 := kp_blk B_g75 hk (fun h => h)
                replace K_0 := K_0.then_ hk (fun _ h => h.elim)
                refine ⟨_, rfl, ?_⟩
                clear hE a; intro a hE
                refine ⟨⟨B_g4, B_gx, B_g8, B_g75, trivial⟩, ?_⟩
                refine d_take (v := Value.bool false) p5_33_9 ns5_33 (by kernel_rfl) (by kernel_rfl) (fun _ _ _ h => h) hE (wn_some g5_33_2 rfl rfl) rfl ⟨B_g4, B_gx, B_g8, B_g75, trivial⟩ (fun W hS => (st_neq (b := false) rfl rfl (by simp))) rfl ?_
                clear hE a; intro a hE
                refine d_take (v := Value.bool false) p5_33_10 ns5_33 (by kernel_rfl) (by kernel_rfl) (fun _ _ _ h => h) hE wn_none rfl ⟨B_g4, B_gx, B_g8, B_g75, trivial⟩ (fun W hS => (st_pick rfl rfl)) rfl ?_
                clear hE a; intro a hE
                refine d_take (v := Value.bool false) p5_33_11 ns5_33 (by kernel_rfl) (by kernel_rfl) (fun _ _ _ h => h) hE wn_none rfl ⟨B_g4, B_gx, B_g8, B_g75, trivial⟩ (fun W hS => (st_move rfl)) rfl ?_
                clear hE a; intro a hE
                refine d_take (v := Value.pointer (some ⟨g75, 0, none⟩)) p5_33_12 ns5_33 (by kernel_rfl) (by kernel_rfl) (fun _ _ _ h => h) hE (wn_some g5_33_11 rfl rfl) rfl ⟨B_g4, B_gx, B_g8, B_g75, trivial⟩ (fun W hS => (st_move rfl)) rfl ?_
                clear hE a; intro a hE
                refine d_take (v := Value.int .i64 65535) p5_33_14 ns5_33 (by kernel_rfl) (by kernel_rfl) (fun _ _ _ h => h) hE (wn_some g5_33_11 rfl rfl) rfl ⟨B_g4, B_gx, B_g8, B_g75, trivial⟩ (fun W hS => (st_move rfl)) rfl ?_
                clear hE a; intro a hE
                refine d_one (by kernel_rfl) rfl (s_call (xs := [Operand.tmp 118]) (args := [Value.pointer (some ⟨g75, 0, none⟩)]) p5_33_13 hE (wn_some g5_33_11 rfl rfl) rfl rfl Try.func24 cl24 (LCost_false g75 m s _ B_g75) ?_)
                rintro e w88 ⟨rfl, hk⟩
                replace B_g4 := kp_blk B_g4 hk (fun h => h)
                replace B_gx := kp_blk B_gx hk (fun h => h)
                replace B_g8 := kp_blk B_g8 hk (fun h => h)
                replace B_g75 := kp_blk B_g75 hk (fun h => h)
                replace K_0 := K_0.then_ hk (fun _ h => h.elim)
                refine ⟨_, rfl, ?_⟩
                clear hE a; intro a hE
                refine ⟨⟨B_g4, B_gx, B_g8, B_g75, trivial⟩, ?_⟩
                refine d_take (v := Value.bool false) p5_33_15 ns5_33 (by kernel_rfl) (by kernel_rfl) (fun _ _ _ h => h) hE (wn_some g5_33_11 rfl rfl) rfl ⟨B_g4, B_gx, B_g8, B_g75, trivial⟩ (fun W hS => (st_neq (b := false) rfl rfl (by decide))) rfl ?_
                clear hE a; intro a hE
                refine d_take (v := Value.bool false) p5_33_16 ns5_33 (by kernel_rfl) (by kernel_rfl) (fun _ _ _ h => h) hE wn_none rfl ⟨B_g4, B_gx, B_g8, B_g75, trivial⟩ (fun W hS => (st_pick rfl rfl)) rfl ?_
                clear hE a; intro a hE
                refine d_take (v := Value.bool false) p5_33_17 ns5_33 (by kernel_rfl) (by kernel_rfl) (fun _ _ _ h => h) hE wn_none rfl ⟨B_g4, B_gx, B_g8, B_g75, trivial⟩ (fun W hS => (st_move rfl)) rfl ?_
                clear hE a; intro a hE
                refine d_take (v := Value.pointer (some ⟨g4, 0, none⟩)) p5_33_18 ns5_33 (by kernel_rfl) (by kernel_rfl) (fun _ _ _ h => h) hE (wn_some g5_33_17 rfl rfl) rfl ⟨B_g4, B_gx, B_g8, B_g75, trivial⟩ (fun W hS => (st_move rfl)) rfl ?_
                clear hE a; intro a hE
                refine d_take (v := Value.pointer (some ⟨g4, 0, none⟩)) p5_33_19 ns5_33 (by kernel_rfl) (by kernel_rfl) (fun _ _ _ h => h) hE (wn_some g5_33_17 rfl rfl) rfl ⟨B_g4, B_gx, B_g8, B_g75, trivial⟩ (fun W hS => (st_nil rfl)) rfl ?_
                clear hE a; intro a hE
                refine d_take (v := Value.pointer (some ⟨g4, 1, none⟩)) p5_33_20 ns5_33 (by kernel_rfl) (by kernel_rfl) (fun _ _ _ h => h) hE (wn_some g5_33_17 rfl rfl) rfl ⟨B_g4, B_gx, B_g8, B_g75, trivial⟩ (fun W hS => (st_fieldAddr Try.underlying41 rfl tS4 rfl rfl)) rfl ?_
                clear hE a; intro a hE
                refine d_take (v := Value.bool false) p5_33_21 ns5_33 (by kernel_rfl) (by kernel_rfl) (fun _ _ _ h => h) hE (wn_some g5_33_17 rfl rfl) rfl ⟨B_g4, B_gx, B_g8, B_g75, trivial⟩ (fun W hS => (st_load1 tA4 rfl ((blk_cell hS.1 1).trans rfl))) rfl ?_
                clear hE a; intro a hE
                refine d_take (v := Value.bool true) p5_33_22 ns5_33 (by kernel_rfl) (by kernel_rfl) (fun _ _ _ h => h) hE (wn_some g5_33_17 rfl rfl) rfl ⟨B_g4, B_gx, B_g8, B_g75, trivial⟩ (fun W hS => (st_not rfl rfl)) rfl ?_
                clear hE a; intro a hE
                refine d_take (v := Value.bool true) p5_33_23 ns5_33 (by kernel_rfl) (by kernel_rfl) (fun _ _ _ h => h) hE (wn_some g5_33_17 rfl rfl) rfl ⟨B_g4, B_gx, B_g8, B_g75, trivial⟩ (fun W hS => (st_move rfl)) rfl ?_
                clear hE a; intro a hE
                refine d_take (v := Value.int .i64 8) p5_33_24 ns5_33 (by kernel_rfl) (by kernel_rfl) (fun _ _ _ h => h) hE (wn_some g5_33_23 rfl rfl) rfl ⟨B_g4, B_gx, B_g8, B_g75, trivial⟩ (fun W hS => (st_move rfl)) rfl ?_
                clear hE a; intro a hE
                refine d_take (v := Value.bool false) p5_33_25 ns5_33 (by kernel_rfl) (by kernel_rfl) (fun _ _ _ h => h) hE (wn_some g5_33_23 rfl rfl) rfl ⟨B_g4, B_gx, B_g8, B_g75, trivial⟩ (fun W hS => (st_neq (b := false) rfl rfl (by decide))) rfl ?_
                clear hE a; intro a hE
                refine d_take (v := Value.bool false) p5_33_26 ns5_33 (by kernel_rfl) (by kernel_rfl) (fun _ _ _ h => h) hE (wn_some g5_33_17 rfl rfl) rfl ⟨B_g4, B_gx, B_g8, B_g75, trivial⟩ (fun W hS => (st_pick rfl rfl)) rfl ?_
                clear hE a; intro a hE
                refine d_take (v := Value.bool false) p5_33_27 ns5_33 (by kernel_rfl) (by kernel_rfl) (fun _ _ _ h => h) hE wn_none rfl ⟨B_g4, B_gx, B_g8, B_g75, trivial⟩ (fun W hS => (st_pick rfl rfl)) rfl ?_
                clear hE a; intro a hE
                refine d_take (v := Value.bool false) p5_33_28 ns5_33 (by kernel_rfl) (by kernel_rfl) (fun _ _ _ h => h) hE wn_none rfl ⟨B_g4, B_gx, B_g8, B_g75, trivial⟩ (fun W hS => (st_move rfl)) rfl ?_
                clear hE a; intro a hE
                refine d_take (v := Value.pointer (some ⟨g4, 0, none⟩)) p5_33_29 ns5_33 (by kernel_rfl) (by kernel_rfl) (fun _ _ _ h => h) hE (wn_some g5_33_28 rfl rfl) rfl ⟨B_g4, B_gx, B_g8, B_g75, trivial⟩ (fun W hS => (st_move rfl)) rfl ?_
                clear hE a; intro a hE
                refine d_take (v := Value.pointer (some ⟨g4, 0, none⟩)) p5_33_30 ns5_33 (by kernel_rfl) (by kernel_rfl) (fun _ _ _ h => h) hE (wn_some g5_33_28 rfl rfl) rfl ⟨B_g4, B_gx, B_g8, B_g75, trivial⟩ (fun W hS => (st_nil rfl)) rfl ?_
                clear hE a; intro a hE
                refine d_take (v := Value.pointer (some ⟨g4, 1, none⟩)) p5_33_31 ns5_33 (by kernel_rfl) (by kernel_rfl) (fun _ _ _ h => h) hE (wn_some g5_33_28 rfl rfl) rfl ⟨B_g4, B_gx, B_g8, B_g75, trivial⟩ (fun W hS => (st_fieldAddr Try.underlying41 rfl tS4 rfl rfl)) rfl ?_
                clear hE a; intro a hE
                refine d_take (v := Value.bool false) p5_33_32 ns5_33 (by kernel_rfl) (by kernel_rfl) (fun _ _ _ h => h) hE (wn_some g5_33_28 rfl rfl) rfl ⟨B_g4, B_gx, B_g8, B_g75, trivial⟩ (fun W hS => (st_load1 tA4 rfl ((blk_cell hS.1 1).trans rfl))) rfl ?_
                clear hE a; intro a hE
                refine d_take (v := Value.bool false) p5_33_33 ns5_33 (by kernel_rfl) (by kernel_rfl) (fun _ _ _ h => h) hE (wn_some g5_33_28 rfl rfl) rfl ⟨B_g4, B_gx, B_g8, B_g75, trivial⟩ (fun W hS => (st_move rfl)) rfl ?_
                clear hE a; intro a hE
                refine d_skip p5_33_34 ns5_33 (by kernel_rfl) (by kernel_rfl) (fun _ _ _ h => h) hE (wn_some g5_33_33 rfl rfl) rfl ⟨B_g4, B_gx, B_g8, B_g75, trivial⟩ rfl ?_
                clear hE a; intro a hE
                refine d_skip p5_33_35 ns5_33 (by kernel_rfl) (by kernel_rfl) (fun _ _ _ h => h) hE (wn_some g5_33_33 rfl rfl) rfl ⟨B_g4, B_gx, B_g8, B_g75, trivial⟩ rfl ?_
                clear hE a; intro a hE
                refine d_skip p5_33_36 ns5_33 (by kernel_rfl) (by kernel_rfl) (fun _ _ _ h => h) hE (wn_some g5_33_33 rfl rfl) rfl ⟨B_g4, B_gx, B_g8, B_g75, trivial⟩ rfl ?_
                clear hE a; intro a hE
                refine d_skip p5_33_37 ns5_33 (by kernel_rfl) (by kernel_rfl) (fun _ _ _ h => h) hE (wn_undef g5_33_36 rfl) rfl ⟨B_g4, B_gx, B_g8, B_g75, trivial⟩ rfl ?_
                clear hE a; intro a hE
                refine d_skip p5_33_38 ns5_33 (by kernel_rfl) (by kernel_rfl) (fun _ _ _ h => h) hE (wn_undef g5_33_36 rfl) rfl ⟨B_g4, B_gx, B_g8, B_g75, trivial⟩ rfl ?_
                clear hE a; intro a hE
                refine d_skip p5_33_39 ns5_33 (by kernel_rfl) (by kernel_rfl) (fun _ _ _ h => h) hE (wn_undef g5_33_36 rfl) rfl ⟨B_g4, B_gx, B_g8, B_g75, trivial⟩ rfl ?_
                clear hE a; intro a hE
                refine d_skip p5_33_40 ns5_33 (by kernel_rfl) (by kernel_rfl) (fun _ _ _ h => h) hE (wn_undef g5_33_36 rfl) rfl ⟨B_g4, B_gx, B_g8, B_g75, trivial⟩ rfl ?_
                clear hE a; intro a hE
                refine d_skip p5_33_41 ns5_33 (by kernel_rfl) (by kernel_rfl) (fun _ _ _ h => h) hE (wn_undef g5_33_36 rfl) rfl ⟨B_g4, B_gx, B_g8, B_g75, trivial⟩ rfl ?_
                clear hE a; intro a hE
                refine d_skip p5_33_42 ns5_33 (by kernel_rfl) (by kernel_rfl) (fun _ _ _ h => h) hE (wn_undef g5_33_36 rfl) rfl ⟨B_g4, B_gx, B_g8, B_g75, trivial⟩ rfl ?_
                clear hE a; intro a hE
                refine d_skip p5_33_43 ns5_33 (by kernel_rfl) (by kernel_rfl) (fun _ _ _ h => h) hE (wn_undef g5_33_36 rfl) rfl ⟨B_g4, B_gx, B_g8, B_g75, trivial⟩ rfl ?_
                clear hE a; intro a hE
                refine d_skip p5_33_44 ns5_33 (by kernel_rfl) (by kernel_rfl) (fun _ _ _ h => h) hE (wn_some g5_33_33 rfl rfl) rfl ⟨B_g4, B_gx, B_g8, B_g75, trivial⟩ rfl ?_
                clear hE a; intro a hE
                refine d_take (v := Value.bool false) p5_33_45 ns5_33 (by kernel_rfl) (by kernel_rfl) (fun _ _ _ h => h) hE (wn_some g5_33_28 rfl rfl) rfl ⟨B_g4, B_gx, B_g8, B_g75, trivial⟩ (fun W hS => (st_pick rfl rfl)) rfl ?_
                clear hE a; intro a hE
                refine d_take (v := Value.bool false) p5_33_46 ns5_33 (by kernel_rfl) (by kernel_rfl) (fun _ _ _ h => h) hE wn_none rfl ⟨B_g4, B_gx, B_g8, B_g75, trivial⟩ (fun W hS => (st_pick rfl rfl)) rfl ?_
                clear hE a; intro a hE
                refine d_end (by kernel_rfl) ?_
                refine x_norm ?_
                refine c_cond (t := false) hE rfl ?_
                refine wp_skip ?_
                refine x_normB ?_
                refine x_norm ?_
                refine c_regL R5_5_l ?_
                refine p_cons (s_still p5_5_0 hE wn_none rfl (st_move rfl) ?_)
                clear hE a; intro a hE
                refine p_cons (s_still p5_5_1 hE wn_none rfl (st_add (z := (k : Int) + 1) rfl rfl (wr_i64 _ (by omega) (by omega))) ?_)
                clear hE a; intro a hE
                refine p_cons (s_still p5_5_2 hE wn_none rfl (st_assign rfl) ?_)
                clear hE a; intro a hE
                refine p_nil ?_
                refine x_norm ?_
                have hs9 : 0 ≤ s ∧ s ≤ 1099511627776 := hs
                have hm9 : false = true → right m := fun h => by cases h
                exact ⟨k + 1, by omega, g75, m, false, s, En.sub hE ⟨rfl, rfl, rfl, rfl, trivial⟩, by omega, hm9, hs9, B_g4, B_g75, z_0_g75, n_g4_g75, K_0⟩
      ·
        refine c_reg R5_4_l ?_
        refine p_cons (s_still p5_4_0 hE wn_none rfl (st_move rfl) ?_)
        clear hE a; intro a hE
        refine p_cons (s_still p5_4_1 hE wn_none rfl (st_move rfl) ?_)
        clear hE a; intro a hE
        refine p_cons (s_still p5_4_2 hE wn_none rfl (st_len Try.underlying33 rfl) ?_)
        clear hE a; intro a hE
        refine p_cons (s_still p5_4_3 hE wn_none rfl (st_lss (b := true) rfl rfl (decide_eq_true hK1)) ?_)
        clear hE a; intro a hE
        refine p_cons (s_still p5_4_4 hE wn_none rfl (st_move rfl) ?_)
        clear hE a; intro a hE
        refine p_cons (s_still p5_4_5 hE (wn_some g5_4_4 rfl rfl) rfl (st_move rfl) ?_)
        clear hE a; intro a hE
        refine p_cons (s_still p5_4_6 hE (wn_some g5_4_4 rfl rfl) rfl (st_lss (b := false) rfl rfl (decide_eq_false hK2)) ?_)
        clear hE a; intro a hE
        refine p_cons (s_still p5_4_7 hE wn_none rfl (st_pick rfl rfl) ?_)
        clear hE a; intro a hE
        refine p_nil ?_
        refine x_norm ?_
        refine c_cond (t := false) hE rfl ?_
        refine wp_exit ?_
        refine x_exit ?_
        refine x_exit ?_
        refine x_in ?_
        refine x_norm ?_
        refine c_reg R5_35_l ?_
        refine p_cons (s_call (xs := []) (args := []) p5_35_0 hE wn_none rfl rfl Try.func12 cl12 (known_any  _) ?_)
        rintro e w89 ⟨rfl, hk⟩
        replace B_g4 := kp_blk B_g4 hk (fun h => h)
        replace B_gx := kp_blk B_gx hk (fun h => h)
        replace K_0 := K_0.then_ hk (fun _ h => h.elim)
        refine ⟨_, rfl, ?_⟩
        clear hE a; intro a hE
        refine p_cons (s_still p5_35_1 hE wn_none rfl (st_assign rfl) ?_)
        clear hE a; intro a hE
        refine p_nil ?_
        refine x_norm ?_
        refine wp_ret ?_
        refine ret_one (v := Value.bool true) rfl hE (.tmp rfl .nil) ?_
        exact ⟨rfl, K_0.to (Nat.le_refl _) (fun _ h => h.elim)⟩
    ·
      refine c_reg R5_4_l ?_
      refine p_cons (s_still p5_4_0 hE wn_none rfl (st_move rfl) ?_)
      clear hE a; intro a hE
      refine p_cons (s_still p5_4_1 hE wn_none rfl (st_move rfl) ?_)
      clear hE a; intro a hE
      refine p_cons (s_still p5_4_2 hE wn_none rfl (st_len Try.underlying33 rfl) ?_)
      clear hE a; intro a hE
      refine p_cons (s_still p5_4_3 hE wn_none rfl (st_lss (b := false) rfl rfl (decide_eq_false hK1)) ?_)
      clear hE a; intro a hE
      refine p_cons (s_still p5_4_4 hE wn_none rfl (st_move rfl) ?_)
      clear hE a; intro a hE
      refine p_cons (s_skip p5_4_5 hE (wn_some g5_4_4 rfl rfl) rfl ?_)
      clear hE a; intro a hE
      refine p_cons (s_skip p5_4_6 hE (wn_some g5_4_4 rfl rfl) rfl ?_)
      clear hE a; intro a hE
      refine p_cons (s_still p5_4_7 hE wn_none rfl (st_pick rfl rfl) ?_)
      clear hE a; intro a hE
      refine p_nil ?_
      refine x_norm ?_
      refine c_cond (t := false) hE rfl ?_
      refine wp_exit ?_
      refine x_exit ?_
      refine x_exit ?_
      refine x_in ?_
      refine x_norm ?_
      refine c_reg R5_35_l ?_
      refine p_cons (s_call (xs := []) (args := []) p5_35_0 hE wn_none rfl rfl Try.func12 cl12 (known_any  _) ?_)
      rintro e w90 ⟨rfl, hk⟩
      replace B_g4 := kp_blk B_g4 hk (fun h => h)
      replace B_gx := kp_blk B_gx hk (fun h => h)
      replace K_0 := K_0.then_ hk (fun _ h => h.elim)
      refine ⟨_, rfl, ?_⟩
      clear hE a; intro a hE
      refine p_cons (s_still p5_35_1 hE wn_none rfl (st_assign rfl) ?_)
      clear hE a; intro a hE
      refine p_nil ?_
      refine x_norm ?_
      refine wp_ret ?_
      refine ret_one (v := Value.bool true) rfl hE (.tmp rfl .nil) ?_
      exact ⟨rfl, K_0.to (Nat.le_refl _) (fun _ h => h.elim)⟩
end Go.Proofs.Ytpnpfapdjdcnbaa.MLin
