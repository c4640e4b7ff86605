/- RouteNexts: the walk. -/
import Derived.Test.YtnmlckaeheiodaaDoorRub
set_option maxRecDepth 100000
set_option linter.unusedVariables false
set_option linter.unusedSimpArgs false
namespace Go.Proofs.YtnmlckaeheiodaaDoor.Rn
open Go.RowKit Go.Proofs.YtnmlckaeheiodaaDoorW.PrintWords Go.Proofs.YtnmlckaeheiodaaDoor.Ds Go.Proofs.YtnmlckaeheiodaaDoor.Lol Go.Proofs.YtnmlckaeheiodaaDoor.Ra Go.Proofs.YtnmlckaeheiodaaDoor.Rd19 Go.Proofs.YtnmlckaeheiodaaDoor.Rg Go.Proofs.YtnmlckaeheiodaaDoor.Rt Go.Proofs.YtnmlckaeheiodaaDoor.Ru Go.Proofs.YtnmlckaeheiodaaDoor.Rw
open Go.Proofs.YtnmlckaeheiodaaDoor.Pk (Kp)
open Go.Proofs.YtnmlckaeheiodaaDoor.Mi (st_eqlP x_retS MapI getI putI)
theorem R3_0_l : List.range (regOf Tryd.f3 0).size = [0, 1] := by kernel_rfl
theorem R3_1_l : List.range (regOf Tryd.f3 1).size = [0, 1, 2, 3, 4, 5, 6, 7, 8] := by kernel_rfl
theorem R3_2_l : List.range (regOf Tryd.f3 2).size = [0, 1, 2, 3, 4, 5, 6, 7, 8, 9, 10] := by kernel_rfl
theorem R3_3_l : List.range (regOf Tryd.f3 3).size = [0, 1, 2, 3, 4, 5, 6, 7, 8, 9, 10] := by kernel_rfl
theorem R3_4_l : List.range (regOf Tryd.f3 4).size = [0, 1, 2] := by kernel_rfl
theorem R3_5_l : List.range (regOf Tryd.f3 5).size = [0] := by kernel_rfl
theorem R3_6_l : List.range (regOf Tryd.f3 6).size = [0, 1, 2, 3, 4, 5] := by kernel_rfl
theorem R3_7_l : List.range (regOf Tryd.f3 7).size = [0, 1, 2, 3] := by kernel_rfl
theorem R3_8_l : List.range (regOf Tryd.f3 8).size = [0, 1, 2, 3, 4, 5, 6, 7, 8, 9, 10, 11, 12, 13, 14, 15, 16, 17, 18, 19, 20] := by kernel_rfl
theorem R3_9_l : List.range (regOf Tryd.f3 9).size = [0, 1, 2, 3, 4, 5, 6, 7, 8, 9, 10, 11, 12, 13, 14, 15, 16, 17, 18, 19, 20, 21, 22, 23, 24, 25, 26, 27, 28, 29, 30, 31, 32, 33, 34, 35, 36, 37, 38, 39, 40] := by kernel_rfl
theorem body3 : Tryd.f3.body = some (.seq (.region 0 (regOf Tryd.f3 0) false) (.seq (.region 1 (regOf Tryd.f3 1) false) (.seq (.region 2 (regOf Tryd.f3 2) false) (.seq (.region 3 (regOf Tryd.f3 3) false) (.seq (.region 4 (regOf Tryd.f3 4) false) (.seq (.region 5 (regOf Tryd.f3 5) false) (.seq (.seq (.region 6 (regOf Tryd.f3 6) false) (.cond (Operand.tmp 47) (.region 7 (regOf Tryd.f3 7) false) (.skip))) (.seq (.region 8 (regOf Tryd.f3 8) false) (.seq (.region 9 (regOf Tryd.f3 9) false) (.ret)))))))))) := by kernel_rfl
theorem p3_0_0 : pj (regOf Tryd.f3 0) 0 = some (some 5, .box 24 (.tmp 0), 0, none) := by kernel_rfl
theorem p3_0_1 : pj (regOf Tryd.f3 0) 1 = some (some 10, .assign (.const (.bool false)), 4, none) := by kernel_rfl
theorem p3_1_0 : pj (regOf Tryd.f3 1) 0 = some (some 21, .load 24 (.tmp 5), 24, none) := by kernel_rfl
theorem tA24 : (Tryd.prog.underlying 24).map aggD = some true := by kernel_rfl
theorem tS24 : (Tryd.prog.info? 24).map (·.size) = some 4 := by kernel_rfl
theorem p3_1_1 : pj (regOf Tryd.f3 1) 1 = some (some 22, .call { callee := .value (.func 5), args := #[.tmp 21], argTypes := #[24] }, 28, none) := by kernel_rfl
theorem cl5 : callable Tryd.f5 = true := by kernel_rfl
theorem p3_1_2 : pj (regOf Tryd.f3 1) 2 = some (some 20, .move (.tmp 22), 28, none) := by kernel_rfl
theorem p3_1_3 : pj (regOf Tryd.f3 1) 3 = some (some 23, .extract (.tmp 20) 0, 27, none) := by kernel_rfl
theorem p3_1_4 : pj (regOf Tryd.f3 1) 4 = some (some 24, .extract (.tmp 20) 1, 24, none) := by kernel_rfl
theorem p3_1_5 : pj (regOf Tryd.f3 1) 5 = some (some 11, .alloc 27, 0, none) := by kernel_rfl
theorem tZ27 : (Tryd.prog.info? 27).bind (·.zero) = some (Value.agg #[Value.int .i64 0, Value.int .i64 0, Value.bool false, Value.pointer none]) := by kernel_rfl
theorem p3_1_6 : pj (regOf Tryd.f3 1) 6 = some (some 12, .alloc 24, 0, none) := by kernel_rfl
theorem tZ24 : (Tryd.prog.info? 24).bind (·.zero) = some (Value.agg #[Value.int .i64 0, Value.int .i64 0, Value.bool false, Value.slice none 0 0]) := by kernel_rfl
theorem p3_1_7 : pj (regOf Tryd.f3 1) 7 = some (none, .store 27 (.tmp 11) (.tmp 23), 0, none) := by kernel_rfl
theorem tS27 : (Tryd.prog.info? 27).map (·.size) = some 4 := by kernel_rfl
theorem p3_1_8 : pj (regOf Tryd.f3 1) 8 = some (none, .store 24 (.tmp 12) (.tmp 24), 0, none) := by kernel_rfl
theorem p3_2_0 : pj (regOf Tryd.f3 2) 0 = some (some 26, .load 27 (.tmp 11), 27, none) := by kernel_rfl
theorem tA27 : (Tryd.prog.underlying 27).map aggD = some true := by kernel_rfl
theorem p3_2_1 : pj (regOf Tryd.f3 2) 1 = some (some 27, .move (.tmp 1), 3, none) := by kernel_rfl
theorem p3_2_2 : pj (regOf Tryd.f3 2) 2 = some (some 28, .move (.tmp 2), 3, none) := by kernel_rfl
theorem p3_2_3 : pj (regOf Tryd.f3 2) 3 = some (some 29, .move (.tmp 3), 4, none) := by kernel_rfl
theorem p3_2_4 : pj (regOf Tryd.f3 2) 4 = some (some 30, .call { callee := .value (.func 6), args := #[.tmp 26, .tmp 27, .tmp 28, .tmp 29], argTypes := #[27, 3, 3, 4] }, 33, none) := by kernel_rfl
theorem cl6 : callable Tryd.f6 = true := by kernel_rfl
theorem p3_2_5 : pj (regOf Tryd.f3 2) 5 = some (some 25, .move (.tmp 30), 33, none) := by kernel_rfl
theorem p3_2_6 : pj (regOf Tryd.f3 2) 6 = some (some 31, .extract (.tmp 25) 0, 31, none) := by kernel_rfl
theorem p3_2_7 : pj (regOf Tryd.f3 2) 7 = some (some 32, .extract (.tmp 25) 1, 32, none) := by kernel_rfl
theorem p3_2_8 : pj (regOf Tryd.f3 2) 8 = some (some 13, .alloc 31, 0, none) := by kernel_rfl
theorem tZ31 : (Tryd.prog.info? 31).bind (·.zero) = some (Value.agg #[Value.int .i64 0, Value.int .i64 0, Value.bool false]) := by kernel_rfl
theorem p3_2_9 : pj (regOf Tryd.f3 2) 9 = some (none, .store 31 (.tmp 13) (.tmp 31), 0, none) := by kernel_rfl
theorem tS31 : (Tryd.prog.info? 31).map (·.size) = some 3 := by kernel_rfl
theorem p3_2_10 : pj (regOf Tryd.f3 2) 10 = some (some 14, .assign (.tmp 32), 32, none) := by kernel_rfl
theorem p3_3_0 : pj (regOf Tryd.f3 3) 0 = some (some 34, .load 24 (.tmp 12), 24, none) := by kernel_rfl
theorem p3_3_1 : pj (regOf Tryd.f3 3) 1 = some (some 35, .move (.tmp 1), 3, none) := by kernel_rfl
theorem p3_3_2 : pj (regOf Tryd.f3 3) 2 = some (some 36, .move (.tmp 2), 3, none) := by kernel_rfl
theorem p3_3_3 : pj (regOf Tryd.f3 3) 3 = some (some 37, .move (.tmp 3), 4, none) := by kernel_rfl
theorem p3_3_4 : pj (regOf Tryd.f3 3) 4 = some (some 38, .call { callee := .value (.func 7), args := #[.tmp 34, .tmp 35, .tmp 36, .tmp 37], argTypes := #[24, 3, 3, 4] }, 36, none) := by kernel_rfl
theorem cl7 : callable Tryd.f7 = true := by kernel_rfl
theorem p3_3_5 : pj (regOf Tryd.f3 3) 5 = some (some 33, .move (.tmp 38), 36, none) := by kernel_rfl
theorem p3_3_6 : pj (regOf Tryd.f3 3) 6 = some (some 39, .extract (.tmp 33) 0, 35, none) := by kernel_rfl
theorem p3_3_7 : pj (regOf Tryd.f3 3) 7 = some (some 40, .extract (.tmp 33) 1, 3, none) := by kernel_rfl
theorem p3_3_8 : pj (regOf Tryd.f3 3) 8 = some (some 15, .alloc 35, 0, none) := by kernel_rfl
theorem tZ35 : (Tryd.prog.info? 35).bind (·.zero) = some (Value.agg #[Value.int .i64 0, Value.int .i64 0, Value.bool false]) := by kernel_rfl
theorem p3_3_9 : pj (regOf Tryd.f3 3) 9 = some (none, .store 35 (.tmp 15) (.tmp 39), 0, none) := by kernel_rfl
theorem tS35 : (Tryd.prog.info? 35).map (·.size) = some 3 := by kernel_rfl
theorem p3_3_10 : pj (regOf Tryd.f3 3) 10 = some (some 16, .assign (.tmp 40), 3, none) := by kernel_rfl
theorem p3_4_0 : pj (regOf Tryd.f3 4) 0 = some (some 41, .build 38 #[(0, .const (.string { data := #[104, 101, 114, 101] })), (1, .const (.string { data := #[100, 111, 119, 110] })), (2, .const (.string { data := #[117, 112] })), (3, .const (.string { data := #[98, 97, 99, 107] })), (4, .const (.string { data := #[110, 111, 119, 104, 101, 114, 101] }))], 38, none) := by kernel_rfl
theorem p3_4_1 : pj (regOf Tryd.f3 4) 1 = some (some 17, .alloc 38, 0, none) := by kernel_rfl
theorem tZ38 : (Tryd.prog.info? 38).bind (·.zero) = some (Value.agg #[Value.string ByteArray.empty, Value.string ByteArray.empty, Value.string ByteArray.empty, Value.string ByteArray.empty, Value.string ByteArray.empty]) := by kernel_rfl
theorem p3_4_2 : pj (regOf Tryd.f3 4) 2 = some (none, .store 38 (.tmp 17) (.tmp 41), 0, none) := by kernel_rfl
theorem tS38 : (Tryd.prog.info? 38).map (·.size) = some 5 := by kernel_rfl
theorem p3_5_0 : pj (regOf Tryd.f3 5) 0 = some (some 18, .assign (.const (.string { data := #[] })), 9, none) := by kernel_rfl
theorem p3_9_0 : pj (regOf Tryd.f3 9) 0 = some (some 71, .call { callee := .value (.func 9), args := #[], argTypes := #[] }, 4, none) := by kernel_rfl
theorem cl9 : callable Tryd.f9 = true := by kernel_rfl
theorem p3_9_1 : pj (regOf Tryd.f3 9) 1 = some (some 72, .move (.tmp 71), 4, none) := by kernel_rfl
theorem p3_9_2 : pj (regOf Tryd.f3 9) 2 = some (some 73, .move (.tmp 14), 32, some (1, true)) := by kernel_rfl
theorem g3_9_1 : dstOf (regOf Tryd.f3 9) 1 = some 72 := by kernel_rfl
theorem p3_9_3 : pj (regOf Tryd.f3 9) 3 = some (some 74, .move (.tmp 16), 3, some (1, true)) := by kernel_rfl
theorem p3_9_4 : pj (regOf Tryd.f3 9) 4 = some (some 75, .binOp .eql 3 (.tmp 73) (.tmp 74) 3, 4, some (1, true)) := by kernel_rfl
theorem p3_9_5 : pj (regOf Tryd.f3 9) 5 = some (some 76, .pick (.tmp 72) (.tmp 75) (.const (.bool false)), 4, none) := by kernel_rfl
theorem p3_9_6 : pj (regOf Tryd.f3 9) 6 = some (some 77, .move (.tmp 76), 4, none) := by kernel_rfl
theorem p3_9_7 : pj (regOf Tryd.f3 9) 7 = some (some 78, .fieldAddr 31 (.tmp 13) 0, 0, some (6, true)) := by kernel_rfl
theorem g3_9_6 : dstOf (regOf Tryd.f3 9) 6 = some 77 := by kernel_rfl
theorem tS3 : (Tryd.prog.info? 3).map (·.size) = some 1 := by kernel_rfl
theorem p3_9_8 : pj (regOf Tryd.f3 9) 8 = some (some 79, .load 3 (.tmp 78), 3, some (6, true)) := by kernel_rfl
theorem tA3 : (Tryd.prog.underlying 3).map aggD = some false := by kernel_rfl
theorem p3_9_9 : pj (regOf Tryd.f3 9) 9 = some (some 80, .fieldAddr 35 (.tmp 15) 0, 0, some (6, true)) := by kernel_rfl
theorem p3_9_10 : pj (regOf Tryd.f3 9) 10 = some (some 81, .load 3 (.tmp 80), 3, some (6, true)) := by kernel_rfl
theorem p3_9_11 : pj (regOf Tryd.f3 9) 11 = some (some 82, .binOp .eql 3 (.tmp 79) (.tmp 81) 3, 4, some (6, true)) := by kernel_rfl
theorem p3_9_12 : pj (regOf Tryd.f3 9) 12 = some (some 83, .pick (.tmp 77) (.tmp 82) (.const (.bool false)), 4, none) := by kernel_rfl
theorem p3_9_13 : pj (regOf Tryd.f3 9) 13 = some (some 84, .move (.tmp 83), 4, none) := by kernel_rfl
theorem p3_9_14 : pj (regOf Tryd.f3 9) 14 = some (some 85, .fieldAddr 31 (.tmp 13) 1, 0, some (13, true)) := by kernel_rfl
theorem g3_9_13 : dstOf (regOf Tryd.f3 9) 13 = some 84 := by kernel_rfl
theorem p3_9_15 : pj (regOf Tryd.f3 9) 15 = some (some 86, .load 3 (.tmp 85), 3, some (13, true)) := by kernel_rfl
theorem p3_9_16 : pj (regOf Tryd.f3 9) 16 = some (some 87, .fieldAddr 35 (.tmp 15) 1, 0, some (13, true)) := by kernel_rfl
theorem p3_9_17 : pj (regOf Tryd.f3 9) 17 = some (some 88, .load 3 (.tmp 87), 3, some (13, true)) := by kernel_rfl
theorem p3_9_18 : pj (regOf Tryd.f3 9) 18 = some (some 89, .binOp .eql 3 (.tmp 86) (.tmp 88) 3, 4, some (13, true)) := by kernel_rfl
theorem p3_9_19 : pj (regOf Tryd.f3 9) 19 = some (some 90, .pick (.tmp 84) (.tmp 89) (.const (.bool false)), 4, none) := by kernel_rfl
theorem p3_9_20 : pj (regOf Tryd.f3 9) 20 = some (some 91, .move (.tmp 90), 4, none) := by kernel_rfl
theorem p3_9_21 : pj (regOf Tryd.f3 9) 21 = some (some 92, .fieldAddr 31 (.tmp 13) 2, 0, some (20, true)) := by kernel_rfl
theorem g3_9_20 : dstOf (regOf Tryd.f3 9) 20 = some 91 := by kernel_rfl
theorem tS4 : (Tryd.prog.info? 4).map (·.size) = some 1 := by kernel_rfl
theorem p3_9_22 : pj (regOf Tryd.f3 9) 22 = some (some 93, .load 4 (.tmp 92), 4, some (20, true)) := by kernel_rfl
theorem tA4 : (Tryd.prog.underlying 4).map aggD = some false := by kernel_rfl
theorem p3_9_23 : pj (regOf Tryd.f3 9) 23 = some (some 94, .fieldAddr 35 (.tmp 15) 2, 0, some (20, true)) := by kernel_rfl
theorem p3_9_24 : pj (regOf Tryd.f3 9) 24 = some (some 95, .load 4 (.tmp 94), 4, some (20, true)) := by kernel_rfl
theorem p3_9_25 : pj (regOf Tryd.f3 9) 25 = some (some 96, .binOp .eql 4 (.tmp 93) (.tmp 95) 4, 4, some (20, true)) := by kernel_rfl
theorem p3_9_26 : pj (regOf Tryd.f3 9) 26 = some (some 97, .pick (.tmp 91) (.tmp 96) (.const (.bool false)), 4, none) := by kernel_rfl
theorem p3_9_27 : pj (regOf Tryd.f3 9) 27 = some (some 98, .move (.tmp 97), 4, none) := by kernel_rfl
theorem p3_9_28 : pj (regOf Tryd.f3 9) 28 = some (some 99, .move (.tmp 4), 3, some (27, true)) := by kernel_rfl
theorem g3_9_27 : dstOf (regOf Tryd.f3 9) 27 = some 98 := by kernel_rfl
theorem p3_9_29 : pj (regOf Tryd.f3 9) 29 = some (some 100, .call { callee := .value (.func 10), args := #[.tmp 99], argTypes := #[3] }, 9, some (27, true)) := by kernel_rfl
theorem cl10 : callable Tryd.f10 = true := by kernel_rfl
theorem p3_9_30 : pj (regOf Tryd.f3 9) 30 = some (some 101, .move (.tmp 18), 9, some (27, true)) := by kernel_rfl
theorem p3_9_31 : pj (regOf Tryd.f3 9) 31 = some (some 102, .binOp .eql 9 (.tmp 100) (.tmp 101) 9, 4, some (27, true)) := by kernel_rfl
theorem p3_9_32 : pj (regOf Tryd.f3 9) 32 = some (some 103, .pick (.tmp 98) (.tmp 102) (.const (.bool false)), 4, none) := by kernel_rfl
theorem p3_9_33 : pj (regOf Tryd.f3 9) 33 = some (some 104, .move (.tmp 103), 4, none) := by kernel_rfl
theorem p3_9_34 : pj (regOf Tryd.f3 9) 34 = some (some 105, .load 27 (.tmp 11), 27, some (33, true)) := by kernel_rfl
theorem g3_9_33 : dstOf (regOf Tryd.f3 9) 33 = some 104 := by kernel_rfl
theorem p3_9_35 : pj (regOf Tryd.f3 9) 35 = some (some 106, .call { callee := .value (.func 11), args := #[.tmp 105], argTypes := #[27] }, 32, some (33, true)) := by kernel_rfl
theorem cl11 : callable Tryd.f11 = true := by kernel_rfl
theorem p3_9_36 : pj (regOf Tryd.f3 9) 36 = some (some 107, .binOp .eql 32 (.tmp 106) (.const (.int .i64 0)) 32, 4, some (33, true)) := by kernel_rfl
theorem p3_9_37 : pj (regOf Tryd.f3 9) 37 = some (some 108, .move (.tmp 19), 4, some (33, true)) := by kernel_rfl
theorem p3_9_38 : pj (regOf Tryd.f3 9) 38 = some (some 109, .binOp .eql 4 (.tmp 107) (.tmp 108) 4, 4, some (33, true)) := by kernel_rfl
theorem p3_9_39 : pj (regOf Tryd.f3 9) 39 = some (some 110, .pick (.tmp 104) (.tmp 109) (.const (.bool false)), 4, none) := by kernel_rfl
theorem p3_9_40 : pj (regOf Tryd.f3 9) 40 = some (some 10, .assign (.tmp 110), 4, none) := by kernel_rfl
theorem p3_8_0 : pj (regOf Tryd.f3 8) 0 = some (some 51, .fieldAddr 24 (.tmp 5) 0, 0, none) := by kernel_rfl
theorem p3_8_1 : pj (regOf Tryd.f3 8) 1 = some (some 52, .load 3 (.tmp 51), 3, none) := by kernel_rfl
theorem p3_8_2 : pj (regOf Tryd.f3 8) 2 = some (some 53, .call { callee := .value (.func 8), args := #[.tmp 52], argTypes := #[3] }, 4, none) := by kernel_rfl
theorem cl8 : callable Tryd.f8 = true := by kernel_rfl
theorem p3_8_3 : pj (regOf Tryd.f3 8) 3 = some (some 54, .move (.tmp 53), 4, none) := by kernel_rfl
theorem p3_8_4 : pj (regOf Tryd.f3 8) 4 = some (some 55, .fieldAddr 24 (.tmp 5) 1, 0, some (3, true)) := by kernel_rfl
theorem g3_8_3 : dstOf (regOf Tryd.f3 8) 3 = some 54 := by kernel_rfl
theorem p3_8_5 : pj (regOf Tryd.f3 8) 5 = some (some 56, .load 3 (.tmp 55), 3, some (3, true)) := by kernel_rfl
theorem p3_8_6 : pj (regOf Tryd.f3 8) 6 = some (some 57, .binOp .eql 3 (.tmp 56) (.const (.int .i64 (-1))) 3, 4, some (3, true)) := by kernel_rfl
theorem p3_8_7 : pj (regOf Tryd.f3 8) 7 = some (some 58, .move (.tmp 57), 4, some (3, true)) := by kernel_rfl
theorem p3_8_8 : pj (regOf Tryd.f3 8) 8 = some (some 59, .fieldAddr 24 (.tmp 5) 1, 0, some (7, false)) := by kernel_rfl
theorem g3_8_7 : dstOf (regOf Tryd.f3 8) 7 = some 58 := by kernel_rfl
theorem p3_8_9 : pj (regOf Tryd.f3 8) 9 = some (some 60, .load 3 (.tmp 59), 3, some (7, false)) := by kernel_rfl
theorem p3_8_10 : pj (regOf Tryd.f3 8) 10 = some (some 61, .call { callee := .value (.func 8), args := #[.tmp 60], argTypes := #[3] }, 4, some (7, false)) := by kernel_rfl
theorem p3_8_11 : pj (regOf Tryd.f3 8) 11 = some (some 62, .pick (.tmp 58) (.const (.bool true)) (.tmp 61), 4, some (3, true)) := by kernel_rfl
theorem p3_8_12 : pj (regOf Tryd.f3 8) 12 = some (some 63, .pick (.tmp 54) (.tmp 62) (.const (.bool false)), 4, none) := by kernel_rfl
theorem p3_8_13 : pj (regOf Tryd.f3 8) 13 = some (some 64, .move (.tmp 63), 4, none) := by kernel_rfl
theorem p3_8_14 : pj (regOf Tryd.f3 8) 14 = some (some 65, .fieldAddr 24 (.tmp 5) 1, 0, some (13, true)) := by kernel_rfl
theorem g3_8_13 : dstOf (regOf Tryd.f3 8) 13 = some 64 := by kernel_rfl
theorem p3_8_15 : pj (regOf Tryd.f3 8) 15 = some (some 66, .load 3 (.tmp 65), 3, some (13, true)) := by kernel_rfl
theorem p3_8_16 : pj (regOf Tryd.f3 8) 16 = some (some 67, .fieldAddr 24 (.tmp 5) 0, 0, some (13, true)) := by kernel_rfl
theorem p3_8_17 : pj (regOf Tryd.f3 8) 17 = some (some 68, .load 3 (.tmp 67), 3, some (13, true)) := by kernel_rfl
theorem p3_8_18 : pj (regOf Tryd.f3 8) 18 = some (some 69, .binOp .neq 3 (.tmp 66) (.tmp 68) 3, 4, some (13, true)) := by kernel_rfl
theorem p3_8_19 : pj (regOf Tryd.f3 8) 19 = some (some 70, .pick (.tmp 64) (.tmp 69) (.const (.bool false)), 4, none) := by kernel_rfl
theorem p3_8_20 : pj (regOf Tryd.f3 8) 20 = some (some 19, .assign (.tmp 70), 4, none) := by kernel_rfl
theorem p3_6_0 : pj (regOf Tryd.f3 6) 0 = some (some 42, .move (.tmp 4), 3, none) := by kernel_rfl
theorem p3_6_1 : pj (regOf Tryd.f3 6) 1 = some (some 43, .binOp .geq 3 (.tmp 42) (.const (.int .i64 0)) 3, 4, none) := by kernel_rfl
theorem p3_6_2 : pj (regOf Tryd.f3 6) 2 = some (some 44, .move (.tmp 43), 4, none) := by kernel_rfl
theorem p3_6_3 : pj (regOf Tryd.f3 6) 3 = some (some 45, .move (.tmp 4), 3, some (2, true)) := by kernel_rfl
theorem g3_6_2 : dstOf (regOf Tryd.f3 6) 2 = some 44 := by kernel_rfl
theorem p3_6_4 : pj (regOf Tryd.f3 6) 4 = some (some 46, .binOp .lss 3 (.tmp 45) (.const (.int .i64 5)) 3, 4, some (2, true)) := by kernel_rfl
theorem p3_6_5 : pj (regOf Tryd.f3 6) 5 = some (some 47, .pick (.tmp 44) (.tmp 46) (.const (.bool false)), 4, none) := by kernel_rfl
theorem p3_7_0 : pj (regOf Tryd.f3 7) 0 = some (some 48, .move (.tmp 4), 3, none) := by kernel_rfl
theorem p3_7_1 : pj (regOf Tryd.f3 7) 1 = some (some 49, .indexAddr 38 (.tmp 17) (.tmp 48), 0, none) := by kernel_rfl
theorem tS9 : (Tryd.prog.info? 9).map (·.size) = some 1 := by kernel_rfl
theorem p3_7_2 : pj (regOf Tryd.f3 7) 2 = some (some 50, .load 9 (.tmp 49), 9, none) := by kernel_rfl
theorem tA9 : (Tryd.prog.underlying 9).map aggD = some false := by kernel_rfl
theorem p3_7_3 : pj (regOf Tryd.f3 7) 3 = some (some 18, .assign (.tmp 50), 9, none) := by kernel_rfl
set_option maxHeartbeats 4000000 in
theorem walk (l0 : List Value) (z0 : Int × Int × Bool × (List (Int × Int × Int × Int))) (a1 : Int) (a2 : Int) (a3 : Bool) (a4 : Int) (w : World) (hT : Rw.Tx w) (w0 : Kd.K (Kd.pair (Kd.int .i64) (Kd.pair (Kd.int .i64) (Kd.pair Kd.bool (Kd.slice 61 (Kd.pair (Kd.int .i64) (Kd.pair (Kd.int .i64) (Kd.pair (Kd.int .i64) (Kd.int .i64)))))))) w z0 l0) (o0 : ((Lit.int .i64 z0.1).wf = true ∧ ((Lit.int .i64 z0.2.1).wf = true ∧ (True ∧ ((z0.2.2.2.length ≤ maxLen ∧ ∀ x0 ∈ z0.2.2.2, ((Lit.int .i64 x0.1).wf = true ∧ ((Lit.int .i64 x0.2.1).wf = true ∧ ((Lit.int .i64 x0.2.2.1).wf = true ∧ ((Lit.int .i64 x0.2.2.2).wf = true)))))))))) (w1 : (Lit.int .i64 a1).wf = true) (w2 : (Lit.int .i64 a2).wf = true) (w4 : (Lit.int .i64 a4).wf = true) :
    Calls Tryd.prog 3 #[.agg ⟨l0⟩, .int .i64 a1, .int .i64 a2, .bool a3, .int .i64 a4] w fun e w' => e = .returned (.bool true) ∧ Below w.heap.size w w' := by
  have K_0 := Kp.refl w (fun _ => False)
  obtain ⟨Az, cz, rfl, hcz, hCz⟩ := v_open w0
  have hlz : z0.2.2.2.length ≤ 9223372036854775807 := Nat.le_trans o0.2.2.2.1 (by decide)
  obtain ⟨H, hH⟩ : ∃ H, nextF z0.1 z0.2.1 z0.2.2.1 (viaR (allR z0.2.2.2) a1) a1 a2 a3 = H := ⟨_, rfl⟩
  have hrel := rel_all z0.2.2.2
  refine enter (args := [Value.agg #[Value.int .i64 z0.1, Value.int .i64 z0.2.1, Value.bool z0.2.2.1, Value.slice Az z0.2.2.2.length cz], Value.int .i64 a1, Value.int .i64 a2, Value.bool a3, Value.int .i64 a4]) (n := 111) Tryd.func3 body3 rfl rfl rfl ?_
  intro a hE
  refine c_reg R3_0_l ?_
  refine p_cons (s_box p3_0_0 hE wn_none rfl rfl ?_)
  clear hE a; intro g1 w2 z3 B_g1 hk a hE
  replace B_g1 : w2.heap[g1]? = some (.cells #[Value.int .i64 z0.1, Value.int .i64 z0.2.1, Value.bool z0.2.2.1, Value.slice Az z0.2.2.2.length cz] 24 (0, 0)) := B_g1
  have z_0_g1 := Nat.le_trans K_0.kept.1 z3
  replace K_0 := K_0.then_ hk (fun _ h => h.elim)
  clear hk
  refine q0 p3_0_1 hE (st_assign rfl) ?_
  clear hE a; intro a hE
  refine p_nil ?_
  refine x_norm ?_
  refine c_reg R3_1_l ?_
  refine q0 p3_1_0 hE (st_loadN (off := 0) (k := 4) (vs := [Value.int .i64 z0.1, Value.int .i64 z0.2.1, Value.bool z0.2.2.1, Value.slice Az z0.2.2.2.length cz]) tA24 tS24 rfl B_g1 rfl rfl) ?_
  clear hE a; intro a hE
  refine p_cons (s_call (xs := [Operand.tmp 21]) (args := [Value.agg #[Value.int .i64 z0.1, Value.int .i64 z0.2.1, Value.bool z0.2.2.1, Value.slice Az z0.2.2.2.length cz]]) p3_1_1 hE wn_none rfl rfl Tryd.func5 cl5 (to_any z0.1 z0.2.1 z0.2.2.1 Az cz z0.2.2.2 hlz _ (fun W' hk => C_to hCz (K_0.then_ hk (fun _ h => h.elim)))) ?_)
  rintro e w6 ⟨gT, gM, ckT, esT, AD, cD, rfl, z4, z5, n_gT_gM, B_gT, B_gM, MFT, O_D, hle10, _, hk⟩
  have n_g1_gT : g1 ≠ gT := ne_new B_g1 z4
  have z_0_gT := Nat.le_trans K_0.kept.1 z4
  have n_g1_gM : g1 ≠ gM := ne_new B_g1 z5
  have z_0_gM := Nat.le_trans K_0.kept.1 z5
  replace B_g1 := kp_blk B_g1 hk (fun h => h)
  replace K_0 := K_0.then_ hk (fun _ h => h.elim)
  refine ⟨_, rfl, ?_⟩
  clear hE a; intro a hE
  refine q0 p3_1_2 hE (st_move rfl) ?_
  clear hE a; intro a hE
  refine q0 p3_1_3 hE (st_extract rfl rfl) ?_
  clear hE a; intro a hE
  refine q0 p3_1_4 hE (st_extract rfl rfl) ?_
  clear hE a; intro a hE
  refine p_cons (s_alloc p3_1_5 hE wn_none rfl tZ27 ?_)
  clear hE a; intro g7 w8 z9 B_g7 hk a hE
  replace B_g7 : w8.heap[g7]? = some (.cells #[Value.int .i64 0, Value.int .i64 0, Value.bool false, Value.pointer none] 27 (0, 0)) := B_g7
  have n_g1_g7 : g1 ≠ g7 := ne_new B_g1 z9
  have n_gT_g7 : gT ≠ g7 := ne_new B_gT z9
  have n_gM_g7 : gM ≠ g7 := ne_new B_gM z9
  have z_0_g7 := Nat.le_trans K_0.kept.1 z9
  have Nb_D_g7 : ¬ OB AD g7 := fun h => by have := (Rv.rdv_ob O_D h).2; omega
  replace B_g1 := kp_blk B_g1 hk (fun h => h)
  replace B_gT := kp_blk B_gT hk (fun h => h)
  replace B_gM := kp_blk B_gM hk (fun h => h)
  replace O_D := Rv.rdv_keep O_D hk (fun _ _ h => h)
  replace K_0 := K_0.then_ hk (fun _ h => h.elim)
  clear hk
  refine p_cons (s_alloc p3_1_6 hE wn_none rfl tZ24 ?_)
  clear hE a; intro g10 w11 z12 B_g10 hk a hE
  replace B_g10 : w11.heap[g10]? = some (.cells #[Value.int .i64 0, Value.int .i64 0, Value.bool false, Value.slice none 0 0] 24 (0, 0)) := B_g10
  have n_g1_g10 : g1 ≠ g10 := ne_new B_g1 z12
  have n_gT_g10 : gT ≠ g10 := ne_new B_gT z12
  have n_gM_g10 : gM ≠ g10 := ne_new B_gM z12
  have n_g7_g10 : g7 ≠ g10 := ne_new B_g7 z12
  have z_0_g10 := Nat.le_trans K_0.kept.1 z12
  have Nb_D_g10 : ¬ OB AD g10 := fun h => by have := (Rv.rdv_ob O_D h).2; omega
  replace B_g1 := kp_blk B_g1 hk (fun h => h)
  replace B_gT := kp_blk B_gT hk (fun h => h)
  replace B_gM := kp_blk B_gM hk (fun h => h)
  replace B_g7 := kp_blk B_g7 hk (fun h => h)
  replace O_D := Rv.rdv_keep O_D hk (fun _ _ h => h)
  replace K_0 := K_0.then_ hk (fun _ h => h.elim)
  clear hk
  refine p_cons (s_store (off := 0) (k := 4) (cs' := #[Value.int .i64 z0.1, Value.int .i64 z0.2.1, Value.bool z0.2.2.1, Value.pointer (some ⟨gT, 0, none⟩)]) p3_1_7 hE wn_none tS27 rfl rfl rfl rfl B_g7 (Nat.le_of_ble_eq_true rfl) rfl ?_)
  intro w13 B_g7' hk
  replace B_g1 := kp_blk B_g1 hk n_g1_g7
  replace B_gT := kp_blk B_gT hk n_gT_g7
  replace B_gM := kp_blk B_gM hk n_gM_g7
  replace B_g10 := kp_blk B_g10 hk (Ne.symm n_g7_g10)
  replace O_D := Rv.rdv_keep O_D hk (fun k hk2 h2 => Nb_D_g7 (by rw [show k = g7 from h2] at hk2; exact hk2))
  replace K_0 := K_0.then_ hk (fun k h => by rw [show k = g7 from h]; exact Or.inr z_0_g7)
  replace B_g7 := B_g7'
  clear hk
  refine p_cons (s_store (off := 0) (k := 4) (cs' := #[Value.int .i64 z0.1, Value.int .i64 z0.2.1, Value.bool z0.2.2.1, Value.slice AD ((allR z0.2.2.2).length) cD]) p3_1_8 hE wn_none tS24 rfl rfl rfl rfl B_g10 (Nat.le_of_ble_eq_true rfl) rfl ?_)
  intro w14 B_g10' hk
  replace B_g1 := kp_blk B_g1 hk n_g1_g10
  replace B_gT := kp_blk B_gT hk n_gT_g10
  replace B_gM := kp_blk B_gM hk n_gM_g10
  replace B_g7 := kp_blk B_g7 hk n_g7_g10
  replace O_D := Rv.rdv_keep O_D hk (fun k hk2 h2 => Nb_D_g10 (by rw [show k = g10 from h2] at hk2; exact hk2))
  replace K_0 := K_0.then_ hk (fun k h => by rw [show k = g10 from h]; exact Or.inr z_0_g10)
  replace B_g10 := B_g10'
  clear hk
  refine p_nil ?_
  refine x_norm ?_
  refine c_reg R3_2_l ?_
  refine q0 p3_2_0 hE (st_loadN (off := 0) (k := 4) (vs := [Value.int .i64 z0.1, Value.int .i64 z0.2.1, Value.bool z0.2.2.1, Value.pointer (some ⟨gT, 0, none⟩)]) tA27 tS27 rfl B_g7 rfl rfl) ?_
  clear hE a; intro a hE
  refine q0 p3_2_1 hE (st_move rfl) ?_
  clear hE a; intro a hE
  refine q0 p3_2_2 hE (st_move rfl) ?_
  clear hE a; intro a hE
  refine q0 p3_2_3 hE (st_move rfl) ?_
  clear hE a; intro a hE
  have hct := next_any gT gM ckT esT (allL z0.2.2.2) z0.1 z0.2.1 z0.2.2.1 a1 a2 a3 w14 ok_all B_gT B_gM MFT
  rw [hrel.via, hH, show hopV H = Value.tuple #[Value.agg #[Value.int .i64 H.1, Value.int .i64 H.2.1, Value.bool H.2.2.1], Value.int .i64 H.2.2.2] from rfl] at hct
  refine p_cons (s_call (xs := [Operand.tmp 26, Operand.tmp 27, Operand.tmp 28, Operand.tmp 29]) (args := [Value.agg #[Value.int .i64 z0.1, Value.int .i64 z0.2.1, Value.bool z0.2.2.1, Value.pointer (some ⟨gT, 0, none⟩)], Value.int .i64 a1, Value.int .i64 a2, Value.bool a3]) p3_2_4 hE wn_none rfl rfl Tryd.func6 cl6 (hct) ?_)
  rintro e w15 ⟨rfl, hk⟩
  replace B_g1 := kp_blk B_g1 hk (fun h => h)
  replace B_gT := kp_blk B_gT hk (fun h => h)
  replace B_gM := kp_blk B_gM hk (fun h => h)
  replace B_g7 := kp_blk B_g7 hk (fun h => h)
  replace B_g10 := kp_blk B_g10 hk (fun h => h)
  replace O_D := Rv.rdv_keep O_D hk (fun _ _ h => h)
  replace K_0 := K_0.then_ hk (fun _ h => h.elim)
  refine ⟨_, rfl, ?_⟩
  clear hE a; intro a hE
  refine q0 p3_2_5 hE (st_move rfl) ?_
  clear hE a; intro a hE
  refine q0 p3_2_6 hE (st_extract rfl rfl) ?_
  clear hE a; intro a hE
  refine q0 p3_2_7 hE (st_extract rfl rfl) ?_
  clear hE a; intro a hE
  refine p_cons (s_alloc p3_2_8 hE wn_none rfl tZ31 ?_)
  clear hE a; intro g16 w17 z18 B_g16 hk a hE
  replace B_g16 : w17.heap[g16]? = some (.cells #[Value.int .i64 0, Value.int .i64 0, Value.bool false] 31 (0, 0)) := B_g16
  have n_g1_g16 : g1 ≠ g16 := ne_new B_g1 z18
  have n_gT_g16 : gT ≠ g16 := ne_new B_gT z18
  have n_gM_g16 : gM ≠ g16 := ne_new B_gM z18
  have n_g7_g16 : g7 ≠ g16 := ne_new B_g7 z18
  have n_g10_g16 : g10 ≠ g16 := ne_new B_g10 z18
  have z_0_g16 := Nat.le_trans K_0.kept.1 z18
  have Nb_D_g16 : ¬ OB AD g16 := fun h => by have := (Rv.rdv_ob O_D h).2; omega
  replace B_g1 := kp_blk B_g1 hk (fun h => h)
  replace B_gT := kp_blk B_gT hk (fun h => h)
  replace B_gM := kp_blk B_gM hk (fun h => h)
  replace B_g7 := kp_blk B_g7 hk (fun h => h)
  replace B_g10 := kp_blk B_g10 hk (fun h => h)
  replace O_D := Rv.rdv_keep O_D hk (fun _ _ h => h)
  replace K_0 := K_0.then_ hk (fun _ h => h.elim)
  clear hk
  refine p_cons (s_store (off := 0) (k := 3) (cs' := #[Value.int .i64 H.1, Value.int .i64 H.2.1, Value.bool H.2.2.1]) p3_2_9 hE wn_none tS31 rfl rfl rfl rfl B_g16 (Nat.le_of_ble_eq_true rfl) rfl ?_)
  intro w19 B_g16' hk
  replace B_g1 := kp_blk B_g1 hk n_g1_g16
  replace B_gT := kp_blk B_gT hk n_gT_g16
  replace B_gM := kp_blk B_gM hk n_gM_g16
  replace B_g7 := kp_blk B_g7 hk n_g7_g16
  replace B_g10 := kp_blk B_g10 hk n_g10_g16
  replace O_D := Rv.rdv_keep O_D hk (fun k hk2 h2 => Nb_D_g16 (by rw [show k = g16 from h2] at hk2; exact hk2))
  replace K_0 := K_0.then_ hk (fun k h => by rw [show k = g16 from h]; exact Or.inr z_0_g16)
  replace B_g16 := B_g16'
  clear hk
  refine q0 p3_2_10 hE (st_assign rfl) ?_
  clear hE a; intro a hE
  refine p_nil ?_
  refine x_norm ?_
  refine c_reg R3_3_l ?_
  refine q0 p3_3_0 hE (st_loadN (off := 0) (k := 4) (vs := [Value.int .i64 z0.1, Value.int .i64 z0.2.1, Value.bool z0.2.2.1, Value.slice AD ((allR z0.2.2.2).length) cD]) tA24 tS24 rfl B_g10 rfl rfl) ?_
  clear hE a; intro a hE
  refine q0 p3_3_1 hE (st_move rfl) ?_
  clear hE a; intro a hE
  refine q0 p3_3_2 hE (st_move rfl) ?_
  clear hE a; intro a hE
  refine q0 p3_3_3 hE (st_move rfl) ?_
  clear hE a; intro a hE
  have hct := dnext AD cD (allR z0.2.2.2) z0.1 z0.2.1 z0.2.2.1 a1 a2 a3 w19 hrel.ok O_D (by omega)
  rw [hH, show hopV H = Value.tuple #[Value.agg #[Value.int .i64 H.1, Value.int .i64 H.2.1, Value.bool H.2.2.1], Value.int .i64 H.2.2.2] from rfl] at hct
  refine p_cons (s_call (xs := [Operand.tmp 34, Operand.tmp 35, Operand.tmp 36, Operand.tmp 37]) (args := [Value.agg #[Value.int .i64 z0.1, Value.int .i64 z0.2.1, Value.bool z0.2.2.1, Value.slice AD ((allR z0.2.2.2).length) cD], Value.int .i64 a1, Value.int .i64 a2, Value.bool a3]) p3_3_4 hE wn_none rfl rfl Tryd.func7 cl7 (hct) ?_)
  rintro e w20 ⟨rfl, hk⟩
  replace B_g1 := kp_blk B_g1 hk (fun h => h)
  replace B_gT := kp_blk B_gT hk (fun h => h)
  replace B_gM := kp_blk B_gM hk (fun h => h)
  replace B_g7 := kp_blk B_g7 hk (fun h => h)
  replace B_g10 := kp_blk B_g10 hk (fun h => h)
  replace B_g16 := kp_blk B_g16 hk (fun h => h)
  replace O_D := Rv.rdv_keep O_D hk (fun _ _ h => h)
  replace K_0 := K_0.then_ hk (fun _ h => h.elim)
  refine ⟨_, rfl, ?_⟩
  clear hE a; intro a hE
  refine q0 p3_3_5 hE (st_move rfl) ?_
  clear hE a; intro a hE
  refine q0 p3_3_6 hE (st_extract rfl rfl) ?_
  clear hE a; intro a hE
  refine q0 p3_3_7 hE (st_extract rfl rfl) ?_
  clear hE a; intro a hE
  refine p_cons (s_alloc p3_3_8 hE wn_none rfl tZ35 ?_)
  clear hE a; intro g21 w22 z23 B_g21 hk a hE
  replace B_g21 : w22.heap[g21]? = some (.cells #[Value.int .i64 0, Value.int .i64 0, Value.bool false] 35 (0, 0)) := B_g21
  have n_g1_g21 : g1 ≠ g21 := ne_new B_g1 z23
  have n_gT_g21 : gT ≠ g21 := ne_new B_gT z23
  have n_gM_g21 : gM ≠ g21 := ne_new B_gM z23
  have n_g7_g21 : g7 ≠ g21 := ne_new B_g7 z23
  have n_g10_g21 : g10 ≠ g21 := ne_new B_g10 z23
  have n_g16_g21 : g16 ≠ g21 := ne_new B_g16 z23
  have z_0_g21 := Nat.le_trans K_0.kept.1 z23
  have Nb_D_g21 : ¬ OB AD g21 := fun h => by have := (Rv.rdv_ob O_D h).2; omega
  replace B_g1 := kp_blk B_g1 hk (fun h => h)
  replace B_gT := kp_blk B_gT hk (fun h => h)
  replace B_gM := kp_blk B_gM hk (fun h => h)
  replace B_g7 := kp_blk B_g7 hk (fun h => h)
  replace B_g10 := kp_blk B_g10 hk (fun h => h)
  replace B_g16 := kp_blk B_g16 hk (fun h => h)
  replace O_D := Rv.rdv_keep O_D hk (fun _ _ h => h)
  replace K_0 := K_0.then_ hk (fun _ h => h.elim)
  clear hk
  refine p_cons (s_store (off := 0) (k := 3) (cs' := #[Value.int .i64 H.1, Value.int .i64 H.2.1, Value.bool H.2.2.1]) p3_3_9 hE wn_none tS35 rfl rfl rfl rfl B_g21 (Nat.le_of_ble_eq_true rfl) rfl ?_)
  intro w24 B_g21' hk
  replace B_g1 := kp_blk B_g1 hk n_g1_g21
  replace B_gT := kp_blk B_gT hk n_gT_g21
  replace B_gM := kp_blk B_gM hk n_gM_g21
  replace B_g7 := kp_blk B_g7 hk n_g7_g21
  replace B_g10 := kp_blk B_g10 hk n_g10_g21
  replace B_g16 := kp_blk B_g16 hk n_g16_g21
  replace O_D := Rv.rdv_keep O_D hk (fun k hk2 h2 => Nb_D_g21 (by rw [show k = g21 from h2] at hk2; exact hk2))
  replace K_0 := K_0.then_ hk (fun k h => by rw [show k = g21 from h]; exact Or.inr z_0_g21)
  replace B_g21 := B_g21'
  clear hk
  refine q0 p3_3_10 hE (st_assign rfl) ?_
  clear hE a; intro a hE
  refine p_nil ?_
  refine x_norm ?_
  refine c_reg R3_4_l ?_
  refine q0 p3_4_0 hE (st_build (xs := [(0, Operand.const (Value.string { data := #[104, 101, 114, 101] })), (1, Operand.const (Value.string { data := #[100, 111, 119, 110] })), (2, Operand.const (Value.string { data := #[117, 112] })), (3, Operand.const (Value.string { data := #[98, 97, 99, 107] })), (4, Operand.const (Value.string { data := #[110, 111, 119, 104, 101, 114, 101] }))]) (vs := [(0, (Value.string { data := #[104, 101, 114, 101] })), (1, (Value.string { data := #[100, 111, 119, 110] })), (2, (Value.string { data := #[117, 112] })), (3, (Value.string { data := #[98, 97, 99, 107] })), (4, (Value.string { data := #[110, 111, 119, 104, 101, 114, 101] }))]) (cs := #[(Value.string { data := #[104, 101, 114, 101] }), (Value.string { data := #[100, 111, 119, 110] }), (Value.string { data := #[117, 112] }), (Value.string { data := #[98, 97, 99, 107] }), (Value.string { data := #[110, 111, 119, 104, 101, 114, 101] })]) rfl (by kernel_rfl)) ?_
  clear hE a; intro a hE
  refine p_cons (s_alloc p3_4_1 hE wn_none rfl tZ38 ?_)
  clear hE a; intro g25 w26 z27 B_g25 hk a hE
  replace B_g25 : w26.heap[g25]? = some (.cells #[Value.string ByteArray.empty, Value.string ByteArray.empty, Value.string ByteArray.empty, Value.string ByteArray.empty, Value.string ByteArray.empty] 38 (0, 0)) := B_g25
  have n_g1_g25 : g1 ≠ g25 := ne_new B_g1 z27
  have n_gT_g25 : gT ≠ g25 := ne_new B_gT z27
  have n_gM_g25 : gM ≠ g25 := ne_new B_gM z27
  have n_g7_g25 : g7 ≠ g25 := ne_new B_g7 z27
  have n_g10_g25 : g10 ≠ g25 := ne_new B_g10 z27
  have n_g16_g25 : g16 ≠ g25 := ne_new B_g16 z27
  have n_g21_g25 : g21 ≠ g25 := ne_new B_g21 z27
  have z_0_g25 := Nat.le_trans K_0.kept.1 z27
  have Nb_D_g25 : ¬ OB AD g25 := fun h => by have := (Rv.rdv_ob O_D h).2; omega
  replace B_g1 := kp_blk B_g1 hk (fun h => h)
  replace B_gT := kp_blk B_gT hk (fun h => h)
  replace B_gM := kp_blk B_gM hk (fun h => h)
  replace B_g7 := kp_blk B_g7 hk (fun h => h)
  replace B_g10 := kp_blk B_g10 hk (fun h => h)
  replace B_g16 := kp_blk B_g16 hk (fun h => h)
  replace B_g21 := kp_blk B_g21 hk (fun h => h)
  replace O_D := Rv.rdv_keep O_D hk (fun _ _ h => h)
  replace K_0 := K_0.then_ hk (fun _ h => h.elim)
  clear hk
  refine p_cons (s_store (off := 0) (k := 5) (cs' := #[(Value.string { data := #[104, 101, 114, 101] }), (Value.string { data := #[100, 111, 119, 110] }), (Value.string { data := #[117, 112] }), (Value.string { data := #[98, 97, 99, 107] }), (Value.string { data := #[110, 111, 119, 104, 101, 114, 101] })]) p3_4_2 hE wn_none tS38 rfl rfl rfl rfl B_g25 (Nat.le_of_ble_eq_true rfl) rfl ?_)
  intro w28 B_g25' hk
  replace B_g1 := kp_blk B_g1 hk n_g1_g25
  replace B_gT := kp_blk B_gT hk n_gT_g25
  replace B_gM := kp_blk B_gM hk n_gM_g25
  replace B_g7 := kp_blk B_g7 hk n_g7_g25
  replace B_g10 := kp_blk B_g10 hk n_g10_g25
  replace B_g16 := kp_blk B_g16 hk n_g16_g25
  replace B_g21 := kp_blk B_g21 hk n_g21_g25
  replace O_D := Rv.rdv_keep O_D hk (fun k hk2 h2 => Nb_D_g25 (by rw [show k = g25 from h2] at hk2; exact hk2))
  replace K_0 := K_0.then_ hk (fun k h => by rw [show k = g25 from h]; exact Or.inr z_0_g25)
  replace B_g25 := B_g25'
  clear hk
  refine p_nil ?_
  refine x_norm ?_
  refine c_reg R3_5_l ?_
  refine q0 p3_5_0 hE (st_assign rfl) ?_
  clear hE a; intro a hE
  refine p_nil ?_
  refine x_norm ?_
  refine Rv.join_have (y := .seq (.region 8 (regOf Tryd.f3 8) false) (.seq (.region 9 (regOf Tryd.f3 9) false) (.ret))) (I := fun a W => En 111 a [(0, Value.agg #[Value.int .i64 z0.1, Value.int .i64 z0.2.1, Value.bool z0.2.2.1, Value.slice Az z0.2.2.2.length cz]), (1, Value.int .i64 a1), (2, Value.int .i64 a2), (3, Value.bool a3), (4, Value.int .i64 a4), (5, Value.pointer (some ⟨g1, 0, none⟩)), (10, Value.bool false), (11, Value.pointer (some ⟨g7, 0, none⟩)), (12, Value.pointer (some ⟨g10, 0, none⟩)), (13, Value.pointer (some ⟨g16, 0, none⟩)), (14, Value.int .i64 H.2.2.2), (15, Value.pointer (some ⟨g21, 0, none⟩)), (16, Value.int .i64 H.2.2.2), (17, Value.pointer (some ⟨g25, 0, none⟩)), (18, Value.string (wordF a4))] ∧ W.heap[g1]? = some (.cells #[Value.int .i64 z0.1, Value.int .i64 z0.2.1, Value.bool z0.2.2.1, Value.slice Az z0.2.2.2.length cz] 24 (0, 0)) ∧ W.heap[gT]? = some (.cells #[Value.int .i64 32, Value.map (some gM)] 79 (0, 0)) ∧ W.heap[gM]? = some (.map esT ckT) ∧ W.heap[g7]? = some (.cells #[Value.int .i64 z0.1, Value.int .i64 z0.2.1, Value.bool z0.2.2.1, Value.pointer (some ⟨gT, 0, none⟩)] 27 (0, 0)) ∧ W.heap[g10]? = some (.cells #[Value.int .i64 z0.1, Value.int .i64 z0.2.1, Value.bool z0.2.2.1, Value.slice AD ((allR z0.2.2.2).length) cD] 24 (0, 0)) ∧ W.heap[g16]? = some (.cells #[Value.int .i64 H.1, Value.int .i64 H.2.1, Value.bool H.2.2.1] 31 (0, 0)) ∧ W.heap[g21]? = some (.cells #[Value.int .i64 H.1, Value.int .i64 H.2.1, Value.bool H.2.2.1] 35 (0, 0)) ∧ W.heap[g25]? = some (.cells #[(Value.string { data := #[104, 101, 114, 101] }), (Value.string { data := #[100, 111, 119, 110] }), (Value.string { data := #[117, 112] }), (Value.string { data := #[98, 97, 99, 107] }), (Value.string { data := #[110, 111, 119, 104, 101, 114, 101] })] 38 (0, 0)) ∧ Kp w W (fun _ => False)) ?_ (fun jn8 => ?_)
  ·
    clear hE a
    rintro a w29 ⟨hE, B_g1, B_gT, B_gM, B_g7, B_g10, B_g16, B_g21, B_g25, K_0⟩
    refine Rv.join_have (y := .seq (.region 9 (regOf Tryd.f3 9) false) (.ret)) (I := fun a W => En 111 a [(0, Value.agg #[Value.int .i64 z0.1, Value.int .i64 z0.2.1, Value.bool z0.2.2.1, Value.slice Az z0.2.2.2.length cz]), (1, Value.int .i64 a1), (2, Value.int .i64 a2), (3, Value.bool a3), (4, Value.int .i64 a4), (5, Value.pointer (some ⟨g1, 0, none⟩)), (10, Value.bool false), (11, Value.pointer (some ⟨g7, 0, none⟩)), (12, Value.pointer (some ⟨g10, 0, none⟩)), (13, Value.pointer (some ⟨g16, 0, none⟩)), (14, Value.int .i64 H.2.2.2), (15, Value.pointer (some ⟨g21, 0, none⟩)), (16, Value.int .i64 H.2.2.2), (17, Value.pointer (some ⟨g25, 0, none⟩)), (18, Value.string (wordF a4)), (19, Value.bool (rightV z0.1 z0.2.1))] ∧ W.heap[g1]? = some (.cells #[Value.int .i64 z0.1, Value.int .i64 z0.2.1, Value.bool z0.2.2.1, Value.slice Az z0.2.2.2.length cz] 24 (0, 0)) ∧ W.heap[gT]? = some (.cells #[Value.int .i64 32, Value.map (some gM)] 79 (0, 0)) ∧ W.heap[gM]? = some (.map esT ckT) ∧ W.heap[g7]? = some (.cells #[Value.int .i64 z0.1, Value.int .i64 z0.2.1, Value.bool z0.2.2.1, Value.pointer (some ⟨gT, 0, none⟩)] 27 (0, 0)) ∧ W.heap[g10]? = some (.cells #[Value.int .i64 z0.1, Value.int .i64 z0.2.1, Value.bool z0.2.2.1, Value.slice AD ((allR z0.2.2.2).length) cD] 24 (0, 0)) ∧ W.heap[g16]? = some (.cells #[Value.int .i64 H.1, Value.int .i64 H.2.1, Value.bool H.2.2.1] 31 (0, 0)) ∧ W.heap[g21]? = some (.cells #[Value.int .i64 H.1, Value.int .i64 H.2.1, Value.bool H.2.2.1] 35 (0, 0)) ∧ W.heap[g25]? = some (.cells #[(Value.string { data := #[104, 101, 114, 101] }), (Value.string { data := #[100, 111, 119, 110] }), (Value.string { data := #[117, 112] }), (Value.string { data := #[98, 97, 99, 107] }), (Value.string { data := #[110, 111, 119, 104, 101, 114, 101] })] 38 (0, 0)) ∧ Kp w W (fun _ => False)) ?_ (fun jn9 => ?_)
    ·
      clear hE a
      rintro a w30 ⟨hE, B_g1, B_gT, B_gM, B_g7, B_g10, B_g16, B_g21, B_g25, K_0⟩
      rcases Decidable.em ((rightV z0.1 z0.2.1) = true) with hRV | hRV
      ·
        rw [show (rightV z0.1 z0.2.1) = true from hRV] at hE
        refine c_reg R3_9_l ?_
        refine p_cons (s_call (xs := []) (args := []) p3_9_0 hE wn_none rfl rfl Tryd.func9 cl9 (kn21 _ (tx_keep hT K_0)) ?_)
        rintro e w31 ⟨rfl, hk⟩
        replace B_g1 := kp_blk B_g1 hk (fun h => h)
        replace B_gT := kp_blk B_gT hk (fun h => h)
        replace B_gM := kp_blk B_gM hk (fun h => h)
        replace B_g7 := kp_blk B_g7 hk (fun h => h)
        replace B_g10 := kp_blk B_g10 hk (fun h => h)
        replace B_g16 := kp_blk B_g16 hk (fun h => h)
        replace B_g21 := kp_blk B_g21 hk (fun h => h)
        replace B_g25 := kp_blk B_g25 hk (fun h => h)
        replace K_0 := K_0.then_ hk (fun _ h => h.elim)
        refine ⟨_, rfl, ?_⟩
        clear hE a; intro a hE
        refine q0 p3_9_1 hE (st_move rfl) ?_
        clear hE a; intro a hE
        refine p_cons (s_still p3_9_2 hE (wn_some g3_9_1 rfl rfl) rfl (st_move rfl) ?_)
        clear hE a; intro a hE
        refine p_cons (s_still p3_9_3 hE (wn_some g3_9_1 rfl rfl) rfl (st_move rfl) ?_)
        clear hE a; intro a hE
        refine p_cons (s_still p3_9_4 hE (wn_some g3_9_1 rfl rfl) rfl (st_eql (b := true) rfl rfl (by simp)) ?_)
        clear hE a; intro a hE
        refine q0 p3_9_5 hE (st_pick rfl rfl) ?_
        clear hE a; intro a hE
        refine q0 p3_9_6 hE (st_move rfl) ?_
        clear hE a; intro a hE
        refine p_cons (s_still p3_9_7 hE (wn_some g3_9_6 rfl rfl) rfl (st_fieldAddr Tryd.underlying31 rfl tS3 rfl rfl) ?_)
        clear hE a; intro a hE
        refine p_cons (s_still p3_9_8 hE (wn_some g3_9_6 rfl rfl) rfl (st_load1 tA3 rfl ((blk_cell B_g16 0).trans rfl)) ?_)
        clear hE a; intro a hE
        refine p_cons (s_still p3_9_9 hE (wn_some g3_9_6 rfl rfl) rfl (st_fieldAddr Tryd.underlying35 rfl tS3 rfl rfl) ?_)
        clear hE a; intro a hE
        refine p_cons (s_still p3_9_10 hE (wn_some g3_9_6 rfl rfl) rfl (st_load1 tA3 rfl ((blk_cell B_g21 0).trans rfl)) ?_)
        clear hE a; intro a hE
        refine p_cons (s_still p3_9_11 hE (wn_some g3_9_6 rfl rfl) rfl (st_eql (b := true) rfl rfl (by simp)) ?_)
        clear hE a; intro a hE
        refine q0 p3_9_12 hE (st_pick rfl rfl) ?_
        clear hE a; intro a hE
        refine q0 p3_9_13 hE (st_move rfl) ?_
        clear hE a; intro a hE
        refine p_cons (s_still p3_9_14 hE (wn_some g3_9_13 rfl rfl) rfl (st_fieldAddr Tryd.underlying31 rfl tS3 rfl rfl) ?_)
        clear hE a; intro a hE
        refine p_cons (s_still p3_9_15 hE (wn_some g3_9_13 rfl rfl) rfl (st_load1 tA3 rfl ((blk_cell B_g16 1).trans rfl)) ?_)
        clear hE a; intro a hE
        refine p_cons (s_still p3_9_16 hE (wn_some g3_9_13 rfl rfl) rfl (st_fieldAddr Tryd.underlying35 rfl tS3 rfl rfl) ?_)
        clear hE a; intro a hE
        refine p_cons (s_still p3_9_17 hE (wn_some g3_9_13 rfl rfl) rfl (st_load1 tA3 rfl ((blk_cell B_g21 1).trans rfl)) ?_)
        clear hE a; intro a hE
        refine p_cons (s_still p3_9_18 hE (wn_some g3_9_13 rfl rfl) rfl (st_eql (b := true) rfl rfl (by simp)) ?_)
        clear hE a; intro a hE
        refine q0 p3_9_19 hE (st_pick rfl rfl) ?_
        clear hE a; intro a hE
        refine q0 p3_9_20 hE (st_move rfl) ?_
        clear hE a; intro a hE
        refine p_cons (s_still p3_9_21 hE (wn_some g3_9_20 rfl rfl) rfl (st_fieldAddr Tryd.underlying31 rfl tS4 rfl rfl) ?_)
        clear hE a; intro a hE
        refine p_cons (s_still p3_9_22 hE (wn_some g3_9_20 rfl rfl) rfl (st_load1 tA4 rfl ((blk_cell B_g16 2).trans rfl)) ?_)
        clear hE a; intro a hE
        refine p_cons (s_still p3_9_23 hE (wn_some g3_9_20 rfl rfl) rfl (st_fieldAddr Tryd.underlying35 rfl tS4 rfl rfl) ?_)
        clear hE a; intro a hE
        refine p_cons (s_still p3_9_24 hE (wn_some g3_9_20 rfl rfl) rfl (st_load1 tA4 rfl ((blk_cell B_g21 2).trans rfl)) ?_)
        clear hE a; intro a hE
        refine p_cons (s_still p3_9_25 hE (wn_some g3_9_20 rfl rfl) rfl (st_eqlB (b := true) Tryd.underlying4 rfl rfl (by simp)) ?_)
        clear hE a; intro a hE
        refine q0 p3_9_26 hE (st_pick rfl rfl) ?_
        clear hE a; intro a hE
        refine q0 p3_9_27 hE (st_move rfl) ?_
        clear hE a; intro a hE
        refine p_cons (s_still p3_9_28 hE (wn_some g3_9_27 rfl rfl) rfl (st_move rfl) ?_)
        clear hE a; intro a hE
        refine p_cons (s_call (xs := [Operand.tmp 99]) (args := [Value.int .i64 a4]) p3_9_29 hE (wn_some g3_9_27 rfl rfl) rfl rfl Tryd.func10 cl10 (word_any a4 _ (tx_keep hT K_0)) ?_)
        rintro e w32 ⟨rfl, hk⟩
        replace B_g1 := kp_blk B_g1 hk (fun h => h)
        replace B_gT := kp_blk B_gT hk (fun h => h)
        replace B_gM := kp_blk B_gM hk (fun h => h)
        replace B_g7 := kp_blk B_g7 hk (fun h => h)
        replace B_g10 := kp_blk B_g10 hk (fun h => h)
        replace B_g16 := kp_blk B_g16 hk (fun h => h)
        replace B_g21 := kp_blk B_g21 hk (fun h => h)
        replace B_g25 := kp_blk B_g25 hk (fun h => h)
        replace K_0 := K_0.then_ hk (fun _ h => h.elim)
        refine ⟨_, rfl, ?_⟩
        clear hE a; intro a hE
        refine p_cons (s_still p3_9_30 hE (wn_some g3_9_27 rfl rfl) rfl (st_move rfl) ?_)
        clear hE a; intro a hE
        refine p_cons (s_still p3_9_31 hE (wn_some g3_9_27 rfl rfl) rfl (st_eqlS (b := true) rfl rfl (beq_self_eq_true _)) ?_)
        clear hE a; intro a hE
        refine q0 p3_9_32 hE (st_pick rfl rfl) ?_
        clear hE a; intro a hE
        refine q0 p3_9_33 hE (st_move rfl) ?_
        clear hE a; intro a hE
        refine p_cons (s_still p3_9_34 hE (wn_some g3_9_33 rfl rfl) rfl (st_loadN (off := 0) (k := 4) (vs := [Value.int .i64 z0.1, Value.int .i64 z0.2.1, Value.bool z0.2.2.1, Value.pointer (some ⟨gT, 0, none⟩)]) tA27 tS27 rfl B_g7 rfl rfl) ?_)
        clear hE a; intro a hE
        have hct := pcheck z0.1 z0.2.1 z0.2.2.1 gT w32
        rw [show (rightV z0.1 z0.2.1) = true from hRV] at hct
        refine p_cons (s_call (xs := [Operand.tmp 105]) (args := [Value.agg #[Value.int .i64 z0.1, Value.int .i64 z0.2.1, Value.bool z0.2.2.1, Value.pointer (some ⟨gT, 0, none⟩)]]) p3_9_35 hE (wn_some g3_9_33 rfl rfl) rfl rfl Tryd.func11 cl11 (hct) ?_)
        rintro e w33 ⟨rfl, hk⟩
        replace B_g1 := kp_blk B_g1 hk (fun h => h)
        replace B_gT := kp_blk B_gT hk (fun h => h)
        replace B_gM := kp_blk B_gM hk (fun h => h)
        replace B_g7 := kp_blk B_g7 hk (fun h => h)
        replace B_g10 := kp_blk B_g10 hk (fun h => h)
        replace B_g16 := kp_blk B_g16 hk (fun h => h)
        replace B_g21 := kp_blk B_g21 hk (fun h => h)
        replace B_g25 := kp_blk B_g25 hk (fun h => h)
        replace K_0 := K_0.then_ hk (fun _ h => h.elim)
        refine ⟨_, rfl, ?_⟩
        clear hE a; intro a hE
        refine p_cons (s_still p3_9_36 hE (wn_some g3_9_33 rfl rfl) rfl (st_eql (b := true) rfl rfl (by decide)) ?_)
        clear hE a; intro a hE
        refine p_cons (s_still p3_9_37 hE (wn_some g3_9_33 rfl rfl) rfl (st_move rfl) ?_)
        clear hE a; intro a hE
        refine p_cons (s_still p3_9_38 hE (wn_some g3_9_33 rfl rfl) rfl (st_eqlB (b := true) Tryd.underlying4 rfl rfl rfl) ?_)
        clear hE a; intro a hE
        refine q0 p3_9_39 hE (st_pick rfl rfl) ?_
        clear hE a; intro a hE
        refine q0 p3_9_40 hE (st_assign rfl) ?_
        clear hE a; intro a hE
        refine p_nil ?_
        refine x_norm ?_
        refine wp_ret ?_
        refine ret_one (v := Value.bool true) rfl hE (.tmp rfl .nil) ?_
        exact ⟨rfl, K_0.to (Nat.le_refl _) (fun _ h => h.elim)⟩
      ·
        rw [show (rightV z0.1 z0.2.1) = false from (by simpa using hRV)] at hE
        refine c_reg R3_9_l ?_
        refine p_cons (s_call (xs := []) (args := []) p3_9_0 hE wn_none rfl rfl Tryd.func9 cl9 (kn21 _ (tx_keep hT K_0)) ?_)
        rintro e w34 ⟨rfl, hk⟩
        replace B_g1 := kp_blk B_g1 hk (fun h => h)
        replace B_gT := kp_blk B_gT hk (fun h => h)
        replace B_gM := kp_blk B_gM hk (fun h => h)
        replace B_g7 := kp_blk B_g7 hk (fun h => h)
        replace B_g10 := kp_blk B_g10 hk (fun h => h)
        replace B_g16 := kp_blk B_g16 hk (fun h => h)
        replace B_g21 := kp_blk B_g21 hk (fun h => h)
        replace B_g25 := kp_blk B_g25 hk (fun h => h)
        replace K_0 := K_0.then_ hk (fun _ h => h.elim)
        refine ⟨_, rfl, ?_⟩
        clear hE a; intro a hE
        refine q0 p3_9_1 hE (st_move rfl) ?_
        clear hE a; intro a hE
        refine p_cons (s_still p3_9_2 hE (wn_some g3_9_1 rfl rfl) rfl (st_move rfl) ?_)
        clear hE a; intro a hE
        refine p_cons (s_still p3_9_3 hE (wn_some g3_9_1 rfl rfl) rfl (st_move rfl) ?_)
        clear hE a; intro a hE
        refine p_cons (s_still p3_9_4 hE (wn_some g3_9_1 rfl rfl) rfl (st_eql (b := true) rfl rfl (by simp)) ?_)
        clear hE a; intro a hE
        refine q0 p3_9_5 hE (st_pick rfl rfl) ?_
        clear hE a; intro a hE
        refine q0 p3_9_6 hE (st_move rfl) ?_
        clear hE a; intro a hE
        refine p_cons (s_still p3_9_7 hE (wn_some g3_9_6 rfl rfl) rfl (st_fieldAddr Tryd.underlying31 rfl tS3 rfl rfl) ?_)
        clear hE a; intro a hE
        refine p_cons (s_still p3_9_8 hE (wn_some g3_9_6 rfl rfl) rfl (st_load1 tA3 rfl ((blk_cell B_g16 0).trans rfl)) ?_)
        clear hE a; intro a hE
        refine p_cons (s_still p3_9_9 hE (wn_some g3_9_6 rfl rfl) rfl (st_fieldAddr Tryd.underlying35 rfl tS3 rfl rfl) ?_)
        clear hE a; intro a hE
        refine p_cons (s_still p3_9_10 hE (wn_some g3_9_6 rfl rfl) rfl (st_load1 tA3 rfl ((blk_cell B_g21 0).trans rfl)) ?_)
        clear hE a; intro a hE
        refine p_cons (s_still p3_9_11 hE (wn_some g3_9_6 rfl rfl) rfl (st_eql (b := true) rfl rfl (by simp)) ?_)
        clear hE a; intro a hE
        refine q0 p3_9_12 hE (st_pick rfl rfl) ?_
        clear hE a; intro a hE
        refine q0 p3_9_13 hE (st_move rfl) ?_
        clear hE a; intro a hE
        refine p_cons (s_still p3_9_14 hE (wn_some g3_9_13 rfl rfl) rfl (st_fieldAddr Tryd.underlying31 rfl tS3 rfl rfl) ?_)
        clear hE a; intro a hE
        refine p_cons (s_still p3_9_15 hE (wn_some g3_9_13 rfl rfl) rfl (st_load1 tA3 rfl ((blk_cell B_g16 1).trans rfl)) ?_)
        clear hE a; intro a hE
        refine p_cons (s_still p3_9_16 hE (wn_some g3_9_13 rfl rfl) rfl (st_fieldAddr Tryd.underlying35 rfl tS3 rfl rfl) ?_)
        clear hE a; intro a hE
        refine p_cons (s_still p3_9_17 hE (wn_some g3_9_13 rfl rfl) rfl (st_load1 tA3 rfl ((blk_cell B_g21 1).trans rfl)) ?_)
        clear hE a; intro a hE
        refine p_cons (s_still p3_9_18 hE (wn_some g3_9_13 rfl rfl) rfl (st_eql (b := true) rfl rfl (by simp)) ?_)
        clear hE a; intro a hE
        refine q0 p3_9_19 hE (st_pick rfl rfl) ?_
        clear hE a; intro a hE
        refine q0 p3_9_20 hE (st_move rfl) ?_
        clear hE a; intro a hE
        refine p_cons (s_still p3_9_21 hE (wn_some g3_9_20 rfl rfl) rfl (st_fieldAddr Tryd.underlying31 rfl tS4 rfl rfl) ?_)
        clear hE a; intro a hE
        refine p_cons (s_still p3_9_22 hE (wn_some g3_9_20 rfl rfl) rfl (st_load1 tA4 rfl ((blk_cell B_g16 2).trans rfl)) ?_)
        clear hE a; intro a hE
        refine p_cons (s_still p3_9_23 hE (wn_some g3_9_20 rfl rfl) rfl (st_fieldAddr Tryd.underlying35 rfl tS4 rfl rfl) ?_)
        clear hE a; intro a hE
        refine p_cons (s_still p3_9_24 hE (wn_some g3_9_20 rfl rfl) rfl (st_load1 tA4 rfl ((blk_cell B_g21 2).trans rfl)) ?_)
        clear hE a; intro a hE
        refine p_cons (s_still p3_9_25 hE (wn_some g3_9_20 rfl rfl) rfl (st_eqlB (b := true) Tryd.underlying4 rfl rfl (by simp)) ?_)
        clear hE a; intro a hE
        refine q0 p3_9_26 hE (st_pick rfl rfl) ?_
        clear hE a; intro a hE
        refine q0 p3_9_27 hE (st_move rfl) ?_
        clear hE a; intro a hE
        refine p_cons (s_still p3_9_28 hE (wn_some g3_9_27 rfl rfl) rfl (st_move rfl) ?_)
        clear hE a; intro a hE
        refine p_cons (s_call (xs := [Operand.tmp 99]) (args := [Value.int .i64 a4]) p3_9_29 hE (wn_some g3_9_27 rfl rfl) rfl rfl Tryd.func10 cl10 (word_any a4 _ (tx_keep hT K_0)) ?_)
        rintro e w35 ⟨rfl, hk⟩
        replace B_g1 := kp_blk B_g1 hk (fun h => h)
        replace B_gT := kp_blk B_gT hk (fun h => h)
        replace B_gM := kp_blk B_gM hk (fun h => h)
        replace B_g7 := kp_blk B_g7 hk (fun h => h)
        replace B_g10 := kp_blk B_g10 hk (fun h => h)
        replace B_g16 := kp_blk B_g16 hk (fun h => h)
        replace B_g21 := kp_blk B_g21 hk (fun h => h)
        replace B_g25 := kp_blk B_g25 hk (fun h => h)
        replace K_0 := K_0.then_ hk (fun _ h => h.elim)
        refine ⟨_, rfl, ?_⟩
        clear hE a; intro a hE
        refine p_cons (s_still p3_9_30 hE (wn_some g3_9_27 rfl rfl) rfl (st_move rfl) ?_)
        clear hE a; intro a hE
        refine p_cons (s_still p3_9_31 hE (wn_some g3_9_27 rfl rfl) rfl (st_eqlS (b := true) rfl rfl (beq_self_eq_true _)) ?_)
        clear hE a; intro a hE
        refine q0 p3_9_32 hE (st_pick rfl rfl) ?_
        clear hE a; intro a hE
        refine q0 p3_9_33 hE (st_move rfl) ?_
        clear hE a; intro a hE
        refine p_cons (s_still p3_9_34 hE (wn_some g3_9_33 rfl rfl) rfl (st_loadN (off := 0) (k := 4) (vs := [Value.int .i64 z0.1, Value.int .i64 z0.2.1, Value.bool z0.2.2.1, Value.pointer (some ⟨gT, 0, none⟩)]) tA27 tS27 rfl B_g7 rfl rfl) ?_)
        clear hE a; intro a hE
        have hct := pcheck z0.1 z0.2.1 z0.2.2.1 gT w35
        rw [show (rightV z0.1 z0.2.1) = false from (by simpa using hRV)] at hct
        refine p_cons (s_call (xs := [Operand.tmp 105]) (args := [Value.agg #[Value.int .i64 z0.1, Value.int .i64 z0.2.1, Value.bool z0.2.2.1, Value.pointer (some ⟨gT, 0, none⟩)]]) p3_9_35 hE (wn_some g3_9_33 rfl rfl) rfl rfl Tryd.func11 cl11 (hct) ?_)
        rintro e w36 ⟨rfl, hk⟩
        replace B_g1 := kp_blk B_g1 hk (fun h => h)
        replace B_gT := kp_blk B_gT hk (fun h => h)
        replace B_gM := kp_blk B_gM hk (fun h => h)
        replace B_g7 := kp_blk B_g7 hk (fun h => h)
        replace B_g10 := kp_blk B_g10 hk (fun h => h)
        replace B_g16 := kp_blk B_g16 hk (fun h => h)
        replace B_g21 := kp_blk B_g21 hk (fun h => h)
        replace B_g25 := kp_blk B_g25 hk (fun h => h)
        replace K_0 := K_0.then_ hk (fun _ h => h.elim)
        refine ⟨_, rfl, ?_⟩
        clear hE a; intro a hE
        refine p_cons (s_still p3_9_36 hE (wn_some g3_9_33 rfl rfl) rfl (st_eql (b := false) rfl rfl (by decide)) ?_)
        clear hE a; intro a hE
        refine p_cons (s_still p3_9_37 hE (wn_some g3_9_33 rfl rfl) rfl (st_move rfl) ?_)
        clear hE a; intro a hE
        refine p_cons (s_still p3_9_38 hE (wn_some g3_9_33 rfl rfl) rfl (st_eqlB (b := true) Tryd.underlying4 rfl rfl rfl) ?_)
        clear hE a; intro a hE
        refine q0 p3_9_39 hE (st_pick rfl rfl) ?_
        clear hE a; intro a hE
        refine q0 p3_9_40 hE (st_assign rfl) ?_
        clear hE a; intro a hE
        refine p_nil ?_
        refine x_norm ?_
        refine wp_ret ?_
        refine ret_one (v := Value.bool true) rfl hE (.tmp rfl .nil) ?_
        exact ⟨rfl, K_0.to (Nat.le_refl _) (fun _ h => h.elim)⟩
    ·
      refine c_reg R3_8_l ?_
      refine q0 p3_8_0 hE (st_fieldAddr Tryd.underlying24 rfl tS3 rfl rfl) ?_
      clear hE a; intro a hE
      refine q0 p3_8_1 hE (st_load1 tA3 rfl ((blk_cell B_g1 0).trans rfl)) ?_
      clear hE a; intro a hE
      refine p_cons (s_call (xs := [Operand.tmp 52]) (args := [Value.int .i64 z0.1]) p3_8_2 hE wn_none rfl rfl Tryd.func8 cl8 (vnode z0.1 _) ?_)
      rintro e w37 ⟨rfl, hk⟩
      replace B_g1 := kp_blk B_g1 hk (fun h => h)
      replace B_gT := kp_blk B_gT hk (fun h => h)
      replace B_gM := kp_blk B_gM hk (fun h => h)
      replace B_g7 := kp_blk B_g7 hk (fun h => h)
      replace B_g10 := kp_blk B_g10 hk (fun h => h)
      replace B_g16 := kp_blk B_g16 hk (fun h => h)
      replace B_g21 := kp_blk B_g21 hk (fun h => h)
      replace B_g25 := kp_blk B_g25 hk (fun h => h)
      replace K_0 := K_0.then_ hk (fun _ h => h.elim)
      refine ⟨_, rfl, ?_⟩
      clear hE a; intro a hE
      refine q0 p3_8_3 hE (st_move rfl) ?_
      clear hE a; intro a hE
      rcases Bool.eq_false_or_eq_true (nodeB z0.1) with hb38 | hb38
      ·
        rw [hb38] at hE
        refine p_cons (s_still p3_8_4 hE (wn_some g3_8_3 rfl rfl) rfl (st_fieldAddr Tryd.underlying24 rfl tS3 rfl rfl) ?_)
        clear hE a; intro a hE
        refine p_cons (s_still p3_8_5 hE (wn_some g3_8_3 rfl rfl) rfl (st_load1 tA3 rfl ((blk_cell B_g1 1).trans rfl)) ?_)
        clear hE a; intro a hE
        rcases Decidable.em (z0.2.1 = -1) with hc39 | hc39
        ·
          refine p_cons (s_still (v := Value.bool true) p3_8_6 hE (wn_some g3_8_3 rfl rfl) rfl (st_eql rfl rfl (decide_eq_true hc39)) ?_)
          clear hE a; intro a hE
          refine p_cons (s_still p3_8_7 hE (wn_some g3_8_3 rfl rfl) rfl (st_move rfl) ?_)
          clear hE a; intro a hE
          refine p_cons (s_skip p3_8_8 hE (wn_some g3_8_7 rfl rfl) rfl ?_)
          clear hE a; intro a hE
          refine p_cons (s_skip p3_8_9 hE (wn_some g3_8_7 rfl rfl) rfl ?_)
          clear hE a; intro a hE
          refine p_cons (s_skip p3_8_10 hE (wn_some g3_8_7 rfl rfl) rfl ?_)
          clear hE a; intro a hE
          refine p_cons (s_still p3_8_11 hE (wn_some g3_8_3 rfl rfl) rfl (st_pick rfl rfl) ?_)
          clear hE a; intro a hE
          refine q0 p3_8_12 hE (st_pick rfl rfl) ?_
          clear hE a; intro a hE
          refine q0 p3_8_13 hE (st_move rfl) ?_
          clear hE a; intro a hE
          refine p_cons (s_still p3_8_14 hE (wn_some g3_8_13 rfl rfl) rfl (st_fieldAddr Tryd.underlying24 rfl tS3 rfl rfl) ?_)
          clear hE a; intro a hE
          refine p_cons (s_still p3_8_15 hE (wn_some g3_8_13 rfl rfl) rfl (st_load1 tA3 rfl ((blk_cell B_g1 1).trans rfl)) ?_)
          clear hE a; intro a hE
          refine p_cons (s_still p3_8_16 hE (wn_some g3_8_13 rfl rfl) rfl (st_fieldAddr Tryd.underlying24 rfl tS3 rfl rfl) ?_)
          clear hE a; intro a hE
          refine p_cons (s_still p3_8_17 hE (wn_some g3_8_13 rfl rfl) rfl (st_load1 tA3 rfl ((blk_cell B_g1 0).trans rfl)) ?_)
          clear hE a; intro a hE
          rcases Decidable.em (z0.2.1 = z0.1) with hc40 | hc40
          ·
            refine p_cons (s_still (v := Value.bool false) p3_8_18 hE (wn_some g3_8_13 rfl rfl) rfl (st_neq rfl rfl (by rw [decide_eq_true hc40]; rfl)) ?_)
            clear hE a; intro a hE
            refine q0 p3_8_19 hE (st_pick rfl rfl) ?_
            clear hE a; intro a hE
            refine q0 p3_8_20 hE (st_assign rfl) ?_
            clear hE a; intro a hE
            refine p_nil ?_
            refine x_norm ?_
            have e19 : (rightV z0.1 z0.2.1) = false := by unfold rightV perB; simp only [hb38, decide_eq_true hc39, decide_eq_true hc40, Bool.and_true, Bool.true_and, Bool.and_false, Bool.false_and, Bool.or_true, Bool.true_or, Bool.or_false, Bool.false_or, Bool.not_true, Bool.not_false, Bool.and_self, Bool.or_self]
            exact jn9 _ _ ⟨En.sub hE ⟨rfl, rfl, rfl, rfl, rfl, rfl, rfl, rfl, rfl, rfl, rfl, rfl, rfl, rfl, rfl, (by rw [e19]; rfl), trivial⟩, B_g1, B_gT, B_gM, B_g7, B_g10, B_g16, B_g21, B_g25, K_0⟩
          ·
            refine p_cons (s_still (v := Value.bool true) p3_8_18 hE (wn_some g3_8_13 rfl rfl) rfl (st_neq rfl rfl (by rw [decide_eq_false hc40]; rfl)) ?_)
            clear hE a; intro a hE
            refine q0 p3_8_19 hE (st_pick rfl rfl) ?_
            clear hE a; intro a hE
            refine q0 p3_8_20 hE (st_assign rfl) ?_
            clear hE a; intro a hE
            refine p_nil ?_
            refine x_norm ?_
            have e19 : (rightV z0.1 z0.2.1) = true := by unfold rightV perB; simp only [hb38, decide_eq_true hc39, decide_eq_false hc40, Bool.and_true, Bool.true_and, Bool.and_false, Bool.false_and, Bool.or_true, Bool.true_or, Bool.or_false, Bool.false_or, Bool.not_true, Bool.not_false, Bool.and_self, Bool.or_self]
            exact jn9 _ _ ⟨En.sub hE ⟨rfl, rfl, rfl, rfl, rfl, rfl, rfl, rfl, rfl, rfl, rfl, rfl, rfl, rfl, rfl, (by rw [e19]; rfl), trivial⟩, B_g1, B_gT, B_gM, B_g7, B_g10, B_g16, B_g21, B_g25, K_0⟩
        ·
          refine p_cons (s_still (v := Value.bool false) p3_8_6 hE (wn_some g3_8_3 rfl rfl) rfl (st_eql rfl rfl (decide_eq_false hc39)) ?_)
          clear hE a; intro a hE
          refine p_cons (s_still p3_8_7 hE (wn_some g3_8_3 rfl rfl) rfl (st_move rfl) ?_)
          clear hE a; intro a hE
          refine p_cons (s_still p3_8_8 hE (wn_some g3_8_7 rfl rfl) rfl (st_fieldAddr Tryd.underlying24 rfl tS3 rfl rfl) ?_)
          clear hE a; intro a hE
          refine p_cons (s_still p3_8_9 hE (wn_some g3_8_7 rfl rfl) rfl (st_load1 tA3 rfl ((blk_cell B_g1 1).trans rfl)) ?_)
          clear hE a; intro a hE
          refine p_cons (s_call (xs := [Operand.tmp 60]) (args := [Value.int .i64 z0.2.1]) p3_8_10 hE (wn_some g3_8_7 rfl rfl) rfl rfl Tryd.func8 cl8 (vnode z0.2.1 _) ?_)
          rintro e w41 ⟨rfl, hk⟩
          replace B_g1 := kp_blk B_g1 hk (fun h => h)
          replace B_gT := kp_blk B_gT hk (fun h => h)
          replace B_gM := kp_blk B_gM hk (fun h => h)
          replace B_g7 := kp_blk B_g7 hk (fun h => h)
          replace B_g10 := kp_blk B_g10 hk (fun h => h)
          replace B_g16 := kp_blk B_g16 hk (fun h => h)
          replace B_g21 := kp_blk B_g21 hk (fun h => h)
          replace B_g25 := kp_blk B_g25 hk (fun h => h)
          replace K_0 := K_0.then_ hk (fun _ h => h.elim)
          refine ⟨_, rfl, ?_⟩
          clear hE a; intro a hE
          refine p_cons (s_still p3_8_11 hE (wn_some g3_8_3 rfl rfl) rfl (st_pick rfl rfl) ?_)
          clear hE a; intro a hE
          refine q0 p3_8_12 hE (st_pick rfl rfl) ?_
          clear hE a; intro a hE
          refine q0 p3_8_13 hE (st_move rfl) ?_
          clear hE a; intro a hE
          rcases Bool.eq_false_or_eq_true (nodeB z0.2.1) with hb42 | hb42
          ·
            rw [hb42] at hE
            refine p_cons (s_still p3_8_14 hE (wn_some g3_8_13 rfl rfl) rfl (st_fieldAddr Tryd.underlying24 rfl tS3 rfl rfl) ?_)
            clear hE a; intro a hE
            refine p_cons (s_still p3_8_15 hE (wn_some g3_8_13 rfl rfl) rfl (st_load1 tA3 rfl ((blk_cell B_g1 1).trans rfl)) ?_)
            clear hE a; intro a hE
            refine p_cons (s_still p3_8_16 hE (wn_some g3_8_13 rfl rfl) rfl (st_fieldAddr Tryd.underlying24 rfl tS3 rfl rfl) ?_)
            clear hE a; intro a hE
            refine p_cons (s_still p3_8_17 hE (wn_some g3_8_13 rfl rfl) rfl (st_load1 tA3 rfl ((blk_cell B_g1 0).trans rfl)) ?_)
            clear hE a; intro a hE
            rcases Decidable.em (z0.2.1 = z0.1) with hc43 | hc43
            ·
              refine p_cons (s_still (v := Value.bool false) p3_8_18 hE (wn_some g3_8_13 rfl rfl) rfl (st_neq rfl rfl (by rw [decide_eq_true hc43]; rfl)) ?_)
              clear hE a; intro a hE
              refine q0 p3_8_19 hE (st_pick rfl rfl) ?_
              clear hE a; intro a hE
              refine q0 p3_8_20 hE (st_assign rfl) ?_
              clear hE a; intro a hE
              refine p_nil ?_
              refine x_norm ?_
              have e19 : (rightV z0.1 z0.2.1) = false := by unfold rightV perB; simp only [hb38, hb42, decide_eq_false hc39, decide_eq_true hc43, Bool.and_true, Bool.true_and, Bool.and_false, Bool.false_and, Bool.or_true, Bool.true_or, Bool.or_false, Bool.false_or, Bool.not_true, Bool.not_false, Bool.and_self, Bool.or_self]
              exact jn9 _ _ ⟨En.sub hE ⟨rfl, rfl, rfl, rfl, rfl, rfl, rfl, rfl, rfl, rfl, rfl, rfl, rfl, rfl, rfl, (by rw [e19]; rfl), trivial⟩, B_g1, B_gT, B_gM, B_g7, B_g10, B_g16, B_g21, B_g25, K_0⟩
            ·
              refine p_cons (s_still (v := Value.bool true) p3_8_18 hE (wn_some g3_8_13 rfl rfl) rfl (st_neq rfl rfl (by rw [decide_eq_false hc43]; rfl)) ?_)
              clear hE a; intro a hE
              refine q0 p3_8_19 hE (st_pick rfl rfl) ?_
              clear hE a; intro a hE
              refine q0 p3_8_20 hE (st_assign rfl) ?_
              clear hE a; intro a hE
              refine p_nil ?_
              refine x_norm ?_
              have e19 : (rightV z0.1 z0.2.1) = true := by unfold rightV perB; simp only [hb38, hb42, decide_eq_false hc39, decide_eq_false hc43, Bool.and_true, Bool.true_and, Bool.and_false, Bool.false_and, Bool.or_true, Bool.true_or, Bool.or_false, Bool.false_or, Bool.not_true, Bool.not_false, Bool.and_self, Bool.or_self]
              exact jn9 _ _ ⟨En.sub hE ⟨rfl, rfl, rfl, rfl, rfl, rfl, rfl, rfl, rfl, rfl, rfl, rfl, rfl, rfl, rfl, (by rw [e19]; rfl), trivial⟩, B_g1, B_gT, B_gM, B_g7, B_g10, B_g16, B_g21, B_g25, K_0⟩
          ·
            rw [hb42] at hE
            refine p_cons (s_skip p3_8_14 hE (wn_some g3_8_13 rfl rfl) rfl ?_)
            clear hE a; intro a hE
            refine p_cons (s_skip p3_8_15 hE (wn_some g3_8_13 rfl rfl) rfl ?_)
            clear hE a; intro a hE
            refine p_cons (s_skip p3_8_16 hE (wn_some g3_8_13 rfl rfl) rfl ?_)
            clear hE a; intro a hE
            refine p_cons (s_skip p3_8_17 hE (wn_some g3_8_13 rfl rfl) rfl ?_)
            clear hE a; intro a hE
            refine p_cons (s_skip p3_8_18 hE (wn_some g3_8_13 rfl rfl) rfl ?_)
            clear hE a; intro a hE
            refine q0 p3_8_19 hE (st_pick rfl rfl) ?_
            clear hE a; intro a hE
            refine q0 p3_8_20 hE (st_assign rfl) ?_
            clear hE a; intro a hE
            refine p_nil ?_
            refine x_norm ?_
            have e19 : (rightV z0.1 z0.2.1) = false := by unfold rightV perB; simp only [hb38, hb42, decide_eq_false hc39, Bool.and_true, Bool.true_and, Bool.and_false, Bool.false_and, Bool.or_true, Bool.true_or, Bool.or_false, Bool.false_or, Bool.not_true, Bool.not_false, Bool.and_self, Bool.or_self]
            exact jn9 _ _ ⟨En.sub hE ⟨rfl, rfl, rfl, rfl, rfl, rfl, rfl, rfl, rfl, rfl, rfl, rfl, rfl, rfl, rfl, (by rw [e19]; rfl), trivial⟩, B_g1, B_gT, B_gM, B_g7, B_g10, B_g16, B_g21, B_g25, K_0⟩
      ·
        rw [hb38] at hE
        refine p_cons (s_skip p3_8_4 hE (wn_some g3_8_3 rfl rfl) rfl ?_)
        clear hE a; intro a hE
        refine p_cons (s_skip p3_8_5 hE (wn_some g3_8_3 rfl rfl) rfl ?_)
        clear hE a; intro a hE
        refine p_cons (s_skip p3_8_6 hE (wn_some g3_8_3 rfl rfl) rfl ?_)
        clear hE a; intro a hE
        refine p_cons (s_skip p3_8_7 hE (wn_some g3_8_3 rfl rfl) rfl ?_)
        clear hE a; intro a hE
        refine p_cons (s_skip p3_8_8 hE (wn_undef g3_8_7 rfl) rfl ?_)
        clear hE a; intro a hE
        refine p_cons (s_skip p3_8_9 hE (wn_undef g3_8_7 rfl) rfl ?_)
        clear hE a; intro a hE
        refine p_cons (s_skip p3_8_10 hE (wn_undef g3_8_7 rfl) rfl ?_)
        clear hE a; intro a hE
        refine p_cons (s_skip p3_8_11 hE (wn_some g3_8_3 rfl rfl) rfl ?_)
        clear hE a; intro a hE
        refine q0 p3_8_12 hE (st_pick rfl rfl) ?_
        clear hE a; intro a hE
        refine q0 p3_8_13 hE (st_move rfl) ?_
        clear hE a; intro a hE
        refine p_cons (s_skip p3_8_14 hE (wn_some g3_8_13 rfl rfl) rfl ?_)
        clear hE a; intro a hE
        refine p_cons (s_skip p3_8_15 hE (wn_some g3_8_13 rfl rfl) rfl ?_)
        clear hE a; intro a hE
        refine p_cons (s_skip p3_8_16 hE (wn_some g3_8_13 rfl rfl) rfl ?_)
        clear hE a; intro a hE
        refine p_cons (s_skip p3_8_17 hE (wn_some g3_8_13 rfl rfl) rfl ?_)
        clear hE a; intro a hE
        refine p_cons (s_skip p3_8_18 hE (wn_some g3_8_13 rfl rfl) rfl ?_)
        clear hE a; intro a hE
        refine q0 p3_8_19 hE (st_pick rfl rfl) ?_
        clear hE a; intro a hE
        refine q0 p3_8_20 hE (st_assign rfl) ?_
        clear hE a; intro a hE
        refine p_nil ?_
        refine x_norm ?_
        have e19 : (rightV z0.1 z0.2.1) = false := by unfold rightV perB; simp only [hb38, Bool.and_true, Bool.true_and, Bool.and_false, Bool.false_and, Bool.or_true, Bool.true_or, Bool.or_false, Bool.false_or, Bool.not_true, Bool.not_false, Bool.and_self, Bool.or_self]
        exact jn9 _ _ ⟨En.sub hE ⟨rfl, rfl, rfl, rfl, rfl, rfl, rfl, rfl, rfl, rfl, rfl, rfl, rfl, rfl, rfl, (by rw [e19]; rfl), trivial⟩, B_g1, B_gT, B_gM, B_g7, B_g10, B_g16, B_g21, B_g25, K_0⟩
  ·
    refine wp_seq ?_
    refine c_reg R3_6_l ?_
    refine q0 p3_6_0 hE (st_move rfl) ?_
    clear hE a; intro a hE
    rcases Decidable.em (0 ≤ a4) with hc44 | hc44
    ·
      refine p_cons (s_still (v := Value.bool true) p3_6_1 hE wn_none rfl (st_geq rfl rfl (decide_eq_true hc44)) ?_)
      clear hE a; intro a hE
      refine q0 p3_6_2 hE (st_move rfl) ?_
      clear hE a; intro a hE
      refine p_cons (s_still p3_6_3 hE (wn_some g3_6_2 rfl rfl) rfl (st_move rfl) ?_)
      clear hE a; intro a hE
      rcases Decidable.em (a4 < 5) with hc45 | hc45
      ·
        refine p_cons (s_still (v := Value.bool true) p3_6_4 hE (wn_some g3_6_2 rfl rfl) rfl (st_lss rfl rfl (decide_eq_true hc45)) ?_)
        clear hE a; intro a hE
        refine q0 p3_6_5 hE (st_pick rfl rfl) ?_
        clear hE a; intro a hE
        refine p_nil ?_
        refine x_norm ?_
        refine c_cond (t := true) hE rfl ?_
        rcases Decidable.em (a4 = 0) with hk0 | hk0
        ·
          subst hk0
          refine c_regL R3_7_l ?_
          refine q0 p3_7_0 hE (st_move rfl) ?_
          clear hE a; intro a hE
          refine q0 p3_7_1 hE (st_indexAddrA (l := 5) (i := 0) Tryd.underlying38 tS9 rfl rfl (by decide) rfl) ?_
          clear hE a; intro a hE
          refine q0 p3_7_2 hE (st_load1 tA9 rfl ((blk_cell B_g25 0).trans rfl)) ?_
          clear hE a; intro a hE
          refine q0 p3_7_3 hE (st_assign rfl) ?_
          clear hE a; intro a hE
          refine p_nil ?_
          refine x_norm ?_
          have e18 : wordF 0 = { data := #[104, 101, 114, 101] } := rfl
          exact jn8 _ _ ⟨En.sub hE ⟨rfl, rfl, rfl, rfl, rfl, rfl, rfl, rfl, rfl, rfl, rfl, rfl, rfl, rfl, (by rw [e18]; rfl), trivial⟩, B_g1, B_gT, B_gM, B_g7, B_g10, B_g16, B_g21, B_g25, K_0⟩
        ·
          rcases Decidable.em (a4 = 1) with hk1 | hk1
          ·
            subst hk1
            refine c_regL R3_7_l ?_
            refine q0 p3_7_0 hE (st_move rfl) ?_
            clear hE a; intro a hE
            refine q0 p3_7_1 hE (st_indexAddrA (l := 5) (i := 1) Tryd.underlying38 tS9 rfl rfl (by decide) rfl) ?_
            clear hE a; intro a hE
            refine q0 p3_7_2 hE (st_load1 tA9 rfl ((blk_cell B_g25 1).trans rfl)) ?_
            clear hE a; intro a hE
            refine q0 p3_7_3 hE (st_assign rfl) ?_
            clear hE a; intro a hE
            refine p_nil ?_
            refine x_norm ?_
            have e18 : wordF 1 = { data := #[100, 111, 119, 110] } := rfl
            exact jn8 _ _ ⟨En.sub hE ⟨rfl, rfl, rfl, rfl, rfl, rfl, rfl, rfl, rfl, rfl, rfl, rfl, rfl, rfl, (by rw [e18]; rfl), trivial⟩, B_g1, B_gT, B_gM, B_g7, B_g10, B_g16, B_g21, B_g25, K_0⟩
          ·
            rcases Decidable.em (a4 = 2) with hk2 | hk2
            ·
              subst hk2
              refine c_regL R3_7_l ?_
              refine q0 p3_7_0 hE (st_move rfl) ?_
              clear hE a; intro a hE
              refine q0 p3_7_1 hE (st_indexAddrA (l := 5) (i := 2) Tryd.underlying38 tS9 rfl rfl (by decide) rfl) ?_
              clear hE a; intro a hE
              refine q0 p3_7_2 hE (st_load1 tA9 rfl ((blk_cell B_g25 2).trans rfl)) ?_
              clear hE a; intro a hE
              refine q0 p3_7_3 hE (st_assign rfl) ?_
              clear hE a; intro a hE
              refine p_nil ?_
              refine x_norm ?_
              have e18 : wordF 2 = { data := #[117, 112] } := rfl
              exact jn8 _ _ ⟨En.sub hE ⟨rfl, rfl, rfl, rfl, rfl, rfl, rfl, rfl, rfl, rfl, rfl, rfl, rfl, rfl, (by rw [e18]; rfl), trivial⟩, B_g1, B_gT, B_gM, B_g7, B_g10, B_g16, B_g21, B_g25, K_0⟩
            ·
              rcases Decidable.em (a4 = 3) with hk3 | hk3
              ·
                subst hk3
                refine c_regL R3_7_l ?_
                refine q0 p3_7_0 hE (st_move rfl) ?_
                clear hE a; intro a hE
                refine q0 p3_7_1 hE (st_indexAddrA (l := 5) (i := 3) Tryd.underlying38 tS9 rfl rfl (by decide) rfl) ?_
                clear hE a; intro a hE
                refine q0 p3_7_2 hE (st_load1 tA9 rfl ((blk_cell B_g25 3).trans rfl)) ?_
                clear hE a; intro a hE
                refine q0 p3_7_3 hE (st_assign rfl) ?_
                clear hE a; intro a hE
                refine p_nil ?_
                refine x_norm ?_
                have e18 : wordF 3 = { data := #[98, 97, 99, 107] } := rfl
                exact jn8 _ _ ⟨En.sub hE ⟨rfl, rfl, rfl, rfl, rfl, rfl, rfl, rfl, rfl, rfl, rfl, rfl, rfl, rfl, (by rw [e18]; rfl), trivial⟩, B_g1, B_gT, B_gM, B_g7, B_g10, B_g16, B_g21, B_g25, K_0⟩
              ·
                obtain rfl : a4 = 4 := by omega
                refine c_regL R3_7_l ?_
                refine q0 p3_7_0 hE (st_move rfl) ?_
                clear hE a; intro a hE
                refine q0 p3_7_1 hE (st_indexAddrA (l := 5) (i := 4) Tryd.underlying38 tS9 rfl rfl (by decide) rfl) ?_
                clear hE a; intro a hE
                refine q0 p3_7_2 hE (st_load1 tA9 rfl ((blk_cell B_g25 4).trans rfl)) ?_
                clear hE a; intro a hE
                refine q0 p3_7_3 hE (st_assign rfl) ?_
                clear hE a; intro a hE
                refine p_nil ?_
                refine x_norm ?_
                have e18 : wordF 4 = { data := #[110, 111, 119, 104, 101, 114, 101] } := rfl
                exact jn8 _ _ ⟨En.sub hE ⟨rfl, rfl, rfl, rfl, rfl, rfl, rfl, rfl, rfl, rfl, rfl, rfl, rfl, rfl, (by rw [e18]; rfl), trivial⟩, B_g1, B_gT, B_gM, B_g7, B_g10, B_g16, B_g21, B_g25, K_0⟩
      ·
        refine p_cons (s_still (v := Value.bool false) p3_6_4 hE (wn_some g3_6_2 rfl rfl) rfl (st_lss rfl rfl (decide_eq_false hc45)) ?_)
        clear hE a; intro a hE
        refine q0 p3_6_5 hE (st_pick rfl rfl) ?_
        clear hE a; intro a hE
        refine p_nil ?_
        refine x_norm ?_
        refine c_cond (t := false) hE rfl ?_
        refine wp_skip ?_
        refine x_norm ?_
        have e18 : wordF a4 = { data := #[] } := word_no (by omega)
        exact jn8 _ _ ⟨En.sub hE ⟨rfl, rfl, rfl, rfl, rfl, rfl, rfl, rfl, rfl, rfl, rfl, rfl, rfl, rfl, (by rw [e18]; rfl), trivial⟩, B_g1, B_gT, B_gM, B_g7, B_g10, B_g16, B_g21, B_g25, K_0⟩
    ·
      refine p_cons (s_still (v := Value.bool false) p3_6_1 hE wn_none rfl (st_geq rfl rfl (decide_eq_false hc44)) ?_)
      clear hE a; intro a hE
      refine q0 p3_6_2 hE (st_move rfl) ?_
      clear hE a; intro a hE
      refine p_cons (s_skip p3_6_3 hE (wn_some g3_6_2 rfl rfl) rfl ?_)
      clear hE a; intro a hE
      refine p_cons (s_skip p3_6_4 hE (wn_some g3_6_2 rfl rfl) rfl ?_)
      clear hE a; intro a hE
      refine q0 p3_6_5 hE (st_pick rfl rfl) ?_
      clear hE a; intro a hE
      refine p_nil ?_
      refine x_norm ?_
      refine c_cond (t := false) hE rfl ?_
      refine wp_skip ?_
      refine x_norm ?_
      have e18 : wordF a4 = { data := #[] } := word_no (by omega)
      exact jn8 _ _ ⟨En.sub hE ⟨rfl, rfl, rfl, rfl, rfl, rfl, rfl, rfl, rfl, rfl, rfl, rfl, rfl, rfl, (by rw [e18]; rfl), trivial⟩, B_g1, B_gT, B_gM, B_g7, B_g10, B_g16, B_g21, B_g25, K_0⟩
end Go.Proofs.YtnmlckaeheiodaaDoor.Rn
