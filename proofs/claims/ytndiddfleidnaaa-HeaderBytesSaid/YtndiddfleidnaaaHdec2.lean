/- header.Decode, case by case. -/
import Derived.Test.YtndiddfleidnaaaHdr
set_option maxRecDepth 100000
set_option linter.unusedVariables false
set_option linter.unusedSimpArgs false
namespace Go.Proofs.Ytndiddfleidnaaa.Hdec2
open Go.RowKit Go.Proofs.YtndiddfleidnaaaW.PrintWords Go.Proofs.Ytndiddfleidnaaa.Ds Go.Proofs.Ytndiddfleidnaaa.Cc Go.Proofs.Ytndiddfleidnaaa.Hd
open Go.Proofs.Ytndiddfleidnaaa.Pk (Kp fitsF spanF putF digF joinF)
theorem over_g (A : Option Addr) (n c : Nat) (w : World) : Calls Try.prog 72 #[.slice A n c] w fun e w' => ∃ g, w.heap.size ≤ g ∧ e = .returned (.pointer (some ⟨g, 0, none⟩)) ∧ w'.heap[g]? = some (.cells #[.slice A n c, .int .i64 0, .int .i64 0] 201 (0, 0)) ∧ Kp w w' (fun _ => False) :=
  (Go.Proofs.Ytndiddfleidnaaa.Pk.over_any A n c w).mono (by rintro e w' ⟨rfl, h, hb⟩; exact ⟨_, Nat.le_refl _, rfl, h, Kp.of_below hb _⟩)
theorem R25_0_l : List.range (regOf Try.f25 0).size = [0, 1, 2] := by kernel_rfl
theorem R25_1_l : List.range (regOf Try.f25 1).size = [0, 1, 2] := by kernel_rfl
theorem R25_2_l : List.range (regOf Try.f25 2).size = [0, 1, 2] := by kernel_rfl
theorem R25_3_l : List.range (regOf Try.f25 3).size = [0, 1, 2, 3, 4, 5, 6, 7, 8, 9, 10, 11, 12, 13] := by kernel_rfl
theorem R25_4_l : List.range (regOf Try.f25 4).size = [0, 1, 2, 3, 4] := by kernel_rfl
theorem R25_5_l : List.range (regOf Try.f25 5).size = [0, 1, 2, 3, 4] := by kernel_rfl
theorem R25_6_l : List.range (regOf Try.f25 6).size = [0, 1, 2, 3] := by kernel_rfl
theorem R25_7_l : List.range (regOf Try.f25 7).size = [0, 1, 2, 3, 4, 5] := by kernel_rfl
theorem R25_8_l : List.range (regOf Try.f25 8).size = [0, 1, 2, 3, 4] := by kernel_rfl
theorem R25_9_l : List.range (regOf Try.f25 9).size = [0, 1, 2, 3] := by kernel_rfl
theorem R25_10_l : List.range (regOf Try.f25 10).size = [0, 1, 2, 3] := by kernel_rfl
theorem R25_11_l : List.range (regOf Try.f25 11).size = [0, 1, 2, 3] := by kernel_rfl
theorem R25_12_l : List.range (regOf Try.f25 12).size = [0, 1, 2, 3, 4, 5] := by kernel_rfl
theorem R25_13_l : List.range (regOf Try.f25 13).size = [0, 1, 2, 3] := by kernel_rfl
theorem R25_14_l : List.range (regOf Try.f25 14).size = [0, 1, 2, 3, 4, 5] := by kernel_rfl
theorem R25_15_l : List.range (regOf Try.f25 15).size = [0, 1, 2, 3] := by kernel_rfl
theorem R25_16_l : List.range (regOf Try.f25 16).size = [0, 1, 2, 3, 4, 5, 6, 7] := by kernel_rfl
theorem body25 : Try.f25.body = some (.seq (.region 0 (regOf Try.f25 0) false) (.seq (.region 1 (regOf Try.f25 1) false) (.seq (.region 2 (regOf Try.f25 2) false) (.seq (.region 3 (regOf Try.f25 3) false) (.seq (.region 4 (regOf Try.f25 4) true) (.seq (.region 5 (regOf Try.f25 5) true) (.seq (.block 0 (.seq (.region 6 (regOf Try.f25 6) false) (.cond (Operand.tmp 34) (.seq (.region 7 (regOf Try.f25 7) false) (.ret)) (.seq (.region 8 (regOf Try.f25 8) false) (.cond (Operand.tmp 41) (.seq (.region 9 (regOf Try.f25 9) false) (.ret)) (.seq (.region 10 (regOf Try.f25 10) false) (.cond (Operand.tmp 47) (.seq (.region 11 (regOf Try.f25 11) false) (.ret)) (.seq (.region 12 (regOf Try.f25 12) true) (.cond (Operand.tmp 52) (.seq (.region 13 (regOf Try.f25 13) false) (.ret)) (.seq (.region 14 (regOf Try.f25 14) true) (.cond (Operand.tmp 59) (.seq (.region 15 (regOf Try.f25 15) false) (.ret)) (.skip)))))))))))) (.seq (.region 16 (regOf Try.f25 16) true) (.ret))))))))) := by kernel_rfl
theorem p25_0_0 : pj (regOf Try.f25 0) 0 = some (some 2, Op.alloc 27, 0, none) := by kernel_rfl
theorem tZ27 : (Try.prog.info? 27).bind (·.zero) = some (Value.agg (([Value.int .i64 0, Value.int .i64 0, Value.int .i64 0, Value.int .i64 0, Value.int .i64 0] ++ b16 (fun _ => 0) ++ b16 (fun _ => 0))).toArray) := by kernel_rfl
theorem p25_0_1 : pj (regOf Try.f25 0) 1 = some (some 3, Op.assign (Operand.const (Value.slice none 0 0)), 36, none) := by kernel_rfl
theorem p25_0_2 : pj (regOf Try.f25 0) 2 = some (some 4, Op.assign (Operand.const (Value.int IntKind.i64 0)), 29, none) := by kernel_rfl
theorem p25_1_0 : pj (regOf Try.f25 1) 0 = some (some 8, Op.move (Operand.tmp 0), 36, none) := by kernel_rfl
theorem p25_1_1 : pj (regOf Try.f25 1) 1 = some (some 9, Op.call { callee := Callee.value (Operand.func 72), args := #[Operand.tmp 8], argTypes := #[36] }, 127, none) := by kernel_rfl
theorem cl72 : callable Try.f72 = true := by kernel_rfl
theorem p25_1_2 : pj (regOf Try.f25 1) 2 = some (some 5, Op.assign (Operand.tmp 9), 127, none) := by kernel_rfl
theorem p25_2_0 : pj (regOf Try.f25 2) 0 = some (some 10, Op.move (Operand.tmp 5), 127, none) := by kernel_rfl
theorem p25_2_1 : pj (regOf Try.f25 2) 1 = some (some 11, Op.call { callee := Callee.value (Operand.func 73), args := #[Operand.tmp 10, Operand.const (Value.int IntKind.i64 4)], argTypes := #[127, 3] }, 3, none) := by kernel_rfl
theorem cl73 : callable Try.f73 = true := by kernel_rfl
theorem p25_2_2 : pj (regOf Try.f25 2) 2 = some (some 6, Op.assign (Operand.tmp 11), 3, none) := by kernel_rfl
theorem p25_3_0 : pj (regOf Try.f25 3) 0 = some (some 12, Op.move (Operand.tmp 6), 3, none) := by kernel_rfl
theorem p25_3_1 : pj (regOf Try.f25 3) 1 = some (some 13, Op.binOp BinOp.quo 3 (Operand.tmp 12) (Operand.const (Value.int IntKind.i64 1048576)) 3, 3, none) := by kernel_rfl
theorem p25_3_2 : pj (regOf Try.f25 3) 2 = some (some 14, Op.binOp BinOp.rem 3 (Operand.tmp 13) (Operand.const (Value.int IntKind.i64 256)) 3, 3, none) := by kernel_rfl
theorem p25_3_3 : pj (regOf Try.f25 3) 3 = some (some 15, Op.move (Operand.tmp 6), 3, none) := by kernel_rfl
theorem p25_3_4 : pj (regOf Try.f25 3) 4 = some (some 16, Op.binOp BinOp.rem 3 (Operand.tmp 15) (Operand.const (Value.int IntKind.i64 1048576)) 3, 3, none) := by kernel_rfl
theorem p25_3_5 : pj (regOf Try.f25 3) 5 = some (some 17, Op.move (Operand.tmp 5), 127, none) := by kernel_rfl
theorem p25_3_6 : pj (regOf Try.f25 3) 6 = some (some 18, Op.call { callee := Callee.value (Operand.func 73), args := #[Operand.tmp 17, Operand.const (Value.int IntKind.i64 2)], argTypes := #[127, 3] }, 3, none) := by kernel_rfl
theorem p25_3_7 : pj (regOf Try.f25 3) 7 = some (some 19, Op.move (Operand.tmp 5), 127, none) := by kernel_rfl
theorem p25_3_8 : pj (regOf Try.f25 3) 8 = some (some 20, Op.call { callee := Callee.value (Operand.func 73), args := #[Operand.tmp 19, Operand.const (Value.int IntKind.i64 1)], argTypes := #[127, 3] }, 3, none) := by kernel_rfl
theorem p25_3_9 : pj (regOf Try.f25 3) 9 = some (some 21, Op.move (Operand.tmp 5), 127, none) := by kernel_rfl
theorem p25_3_10 : pj (regOf Try.f25 3) 10 = some (some 22, Op.call { callee := Callee.value (Operand.func 73), args := #[Operand.tmp 21, Operand.const (Value.int IntKind.i64 1)], argTypes := #[127, 3] }, 3, none) := by kernel_rfl
theorem p25_3_11 : pj (regOf Try.f25 3) 11 = some (some 23, Op.build 27 #[(0, Operand.tmp 14), (1, Operand.tmp 16), (2, Operand.tmp 18), (3, Operand.tmp 20), (4, Operand.tmp 22)], 27, none) := by kernel_rfl
theorem p25_3_12 : pj (regOf Try.f25 3) 12 = some (some 7, Op.alloc 27, 0, none) := by kernel_rfl
theorem p25_3_13 : pj (regOf Try.f25 3) 13 = some (none, Op.store 27 (Operand.tmp 7) (Operand.tmp 23), 0, none) := by kernel_rfl
theorem tS27 : (Try.prog.info? 27).map (·.size) = some 37 := by kernel_rfl
theorem ns25_4 : Region.noSelect (regOf Try.f25 4) = true := by kernel_rfl
theorem p25_4_0 : pj (regOf Try.f25 4) 0 = some (some 24, Op.fieldAddr 27 (Operand.tmp 7) 5, 0, none) := by kernel_rfl
theorem tS25 : (Try.prog.info? 25).map (·.size) = some 16 := by kernel_rfl
theorem p25_4_1 : pj (regOf Try.f25 4) 1 = some (some 25, Op.slice 25 (Operand.tmp 24) none none none, 36, none) := by kernel_rfl
theorem tS5 : (Try.prog.info? 5).map (·.size) = some 1 := by kernel_rfl
theorem p25_4_2 : pj (regOf Try.f25 4) 2 = some (some 26, Op.move (Operand.tmp 5), 127, none) := by kernel_rfl
theorem p25_4_3 : pj (regOf Try.f25 4) 3 = some (some 27, Op.call { callee := Callee.value (Operand.func 74), args := #[Operand.tmp 26, Operand.const (Value.int IntKind.i64 16)], argTypes := #[127, 3] }, 36, none) := by kernel_rfl
theorem cl74 : callable Try.f74 = true := by kernel_rfl
theorem p25_4_4 : pj (regOf Try.f25 4) 4 = some (some 28, Op.call { callee := Callee.builtin Builtin.copy, args := #[Operand.tmp 25, Operand.tmp 27], argTypes := #[36, 36] }, 3, none) := by kernel_rfl
theorem ns25_5 : Region.noSelect (regOf Try.f25 5) = true := by kernel_rfl
theorem p25_5_0 : pj (regOf Try.f25 5) 0 = some (some 29, Op.fieldAddr 27 (Operand.tmp 7) 6, 0, none) := by kernel_rfl
theorem p25_5_1 : pj (regOf Try.f25 5) 1 = some (some 30, Op.slice 25 (Operand.tmp 29) none none none, 36, none) := by kernel_rfl
theorem p25_5_2 : pj (regOf Try.f25 5) 2 = some (some 31, Op.move (Operand.tmp 5), 127, none) := by kernel_rfl
theorem p25_5_3 : pj (regOf Try.f25 5) 3 = some (some 32, Op.call { callee := Callee.value (Operand.func 74), args := #[Operand.tmp 31, Operand.const (Value.int IntKind.i64 16)], argTypes := #[127, 3] }, 36, none) := by kernel_rfl
theorem p25_5_4 : pj (regOf Try.f25 5) 4 = some (some 33, Op.call { callee := Callee.builtin Builtin.copy, args := #[Operand.tmp 30, Operand.tmp 32], argTypes := #[36, 36] }, 3, none) := by kernel_rfl
theorem p25_6_0 : pj (regOf Try.f25 6) 0 = some (some 35, Op.move (Operand.tmp 5), 127, none) := by kernel_rfl
theorem p25_6_1 : pj (regOf Try.f25 6) 1 = some (some 36, Op.call { callee := Callee.value (Operand.func 75), args := #[Operand.tmp 35], argTypes := #[127] }, 29, none) := by kernel_rfl
theorem cl75 : callable Try.f75 = true := by kernel_rfl
theorem p25_6_2 : pj (regOf Try.f25 6) 2 = some (some 37, Op.binOp BinOp.neq 29 (Operand.tmp 36) (Operand.const (Value.int IntKind.i64 0)) 29, 4, none) := by kernel_rfl
theorem p25_6_3 : pj (regOf Try.f25 6) 3 = some (some 34, Op.assign (Operand.tmp 37), 4, none) := by kernel_rfl
theorem p25_8_0 : pj (regOf Try.f25 8) 0 = some (some 42, Op.move (Operand.tmp 6), 3, none) := by kernel_rfl
theorem p25_8_1 : pj (regOf Try.f25 8) 1 = some (some 43, Op.binOp BinOp.quo 3 (Operand.tmp 42) (Operand.const (Value.int IntKind.i64 1048576)) 3, 3, none) := by kernel_rfl
theorem p25_8_2 : pj (regOf Try.f25 8) 2 = some (some 44, Op.binOp BinOp.quo 3 (Operand.tmp 43) (Operand.const (Value.int IntKind.i64 256)) 3, 3, none) := by kernel_rfl
theorem p25_8_3 : pj (regOf Try.f25 8) 3 = some (some 45, Op.binOp BinOp.neq 3 (Operand.tmp 44) (Operand.const (Value.int IntKind.i64 6)) 3, 4, none) := by kernel_rfl
theorem p25_8_4 : pj (regOf Try.f25 8) 4 = some (some 41, Op.assign (Operand.tmp 45), 4, none) := by kernel_rfl
theorem p25_10_0 : pj (regOf Try.f25 10) 0 = some (some 48, Op.move (Operand.tmp 0), 36, none) := by kernel_rfl
theorem p25_10_1 : pj (regOf Try.f25 10) 1 = some (some 49, Op.call { callee := Callee.builtin Builtin.len, args := #[Operand.tmp 48], argTypes := #[36] }, 3, none) := by kernel_rfl
theorem p25_10_2 : pj (regOf Try.f25 10) 2 = some (some 50, Op.binOp BinOp.gtr 3 (Operand.tmp 49) (Operand.const (Value.int IntKind.i64 1280)) 3, 4, none) := by kernel_rfl
theorem p25_10_3 : pj (regOf Try.f25 10) 3 = some (some 47, Op.assign (Operand.tmp 50), 4, none) := by kernel_rfl
theorem p25_11_0 : pj (regOf Try.f25 11) 0 = some (some 51, Op.build 27 #[], 27, none) := by kernel_rfl
theorem p25_11_1 : pj (regOf Try.f25 11) 1 = some (none, Op.store 27 (Operand.tmp 2) (Operand.tmp 51), 0, none) := by kernel_rfl
theorem p25_11_2 : pj (regOf Try.f25 11) 2 = some (some 3, Op.assign (Operand.const (Value.slice none 0 0)), 36, none) := by kernel_rfl
theorem p25_11_3 : pj (regOf Try.f25 11) 3 = some (some 4, Op.assign (Operand.const (Value.int IntKind.i64 2)), 29, none) := by kernel_rfl
theorem tA27 : (Try.prog.underlying 27).map aggD = some true := by kernel_rfl
theorem ns25_12 : Region.noSelect (regOf Try.f25 12) = true := by kernel_rfl
theorem p25_12_0 : pj (regOf Try.f25 12) 0 = some (some 53, Op.move (Operand.tmp 5), 127, none) := by kernel_rfl
theorem p25_12_2 : pj (regOf Try.f25 12) 2 = some (some 55, Op.fieldAddr 27 (Operand.tmp 7) 2, 0, none) := by kernel_rfl
theorem tS3 : (Try.prog.info? 3).map (·.size) = some 1 := by kernel_rfl
theorem p25_12_3 : pj (regOf Try.f25 12) 3 = some (some 56, Op.load 3 (Operand.tmp 55), 3, none) := by kernel_rfl
theorem tA3 : (Try.prog.underlying 3).map aggD = some false := by kernel_rfl
theorem p25_12_1 : pj (regOf Try.f25 12) 1 = some (some 54, Op.call { callee := Callee.value (Operand.func 76), args := #[Operand.tmp 53], argTypes := #[127] }, 3, none) := by kernel_rfl
theorem cl76 : callable Try.f76 = true := by kernel_rfl
theorem p25_12_4 : pj (regOf Try.f25 12) 4 = some (some 57, Op.binOp BinOp.lss 3 (Operand.tmp 54) (Operand.tmp 56) 3, 4, none) := by kernel_rfl
theorem p25_12_5 : pj (regOf Try.f25 12) 5 = some (some 52, Op.assign (Operand.tmp 57), 4, none) := by kernel_rfl
theorem p25_13_0 : pj (regOf Try.f25 13) 0 = some (some 58, Op.build 27 #[], 27, none) := by kernel_rfl
theorem p25_13_1 : pj (regOf Try.f25 13) 1 = some (none, Op.store 27 (Operand.tmp 2) (Operand.tmp 58), 0, none) := by kernel_rfl
theorem p25_13_2 : pj (regOf Try.f25 13) 2 = some (some 3, Op.assign (Operand.const (Value.slice none 0 0)), 36, none) := by kernel_rfl
theorem p25_13_3 : pj (regOf Try.f25 13) 3 = some (some 4, Op.assign (Operand.const (Value.int IntKind.i64 4)), 29, none) := by kernel_rfl
theorem ns25_14 : Region.noSelect (regOf Try.f25 14) = true := by kernel_rfl
theorem p25_14_0 : pj (regOf Try.f25 14) 0 = some (some 60, Op.move (Operand.tmp 5), 127, none) := by kernel_rfl
theorem p25_14_2 : pj (regOf Try.f25 14) 2 = some (some 62, Op.fieldAddr 27 (Operand.tmp 7) 2, 0, none) := by kernel_rfl
theorem p25_14_3 : pj (regOf Try.f25 14) 3 = some (some 63, Op.load 3 (Operand.tmp 62), 3, none) := by kernel_rfl
theorem p25_14_1 : pj (regOf Try.f25 14) 1 = some (some 61, Op.call { callee := Callee.value (Operand.func 76), args := #[Operand.tmp 60], argTypes := #[127] }, 3, none) := by kernel_rfl
theorem p25_14_4 : pj (regOf Try.f25 14) 4 = some (some 64, Op.binOp BinOp.gtr 3 (Operand.tmp 61) (Operand.tmp 63) 3, 4, none) := by kernel_rfl
theorem p25_14_5 : pj (regOf Try.f25 14) 5 = some (some 59, Op.assign (Operand.tmp 64), 4, none) := by kernel_rfl
theorem p25_15_0 : pj (regOf Try.f25 15) 0 = some (some 65, Op.build 27 #[], 27, none) := by kernel_rfl
theorem p25_15_1 : pj (regOf Try.f25 15) 1 = some (none, Op.store 27 (Operand.tmp 2) (Operand.tmp 65), 0, none) := by kernel_rfl
theorem p25_15_2 : pj (regOf Try.f25 15) 2 = some (some 3, Op.assign (Operand.const (Value.slice none 0 0)), 36, none) := by kernel_rfl
theorem p25_15_3 : pj (regOf Try.f25 15) 3 = some (some 4, Op.assign (Operand.const (Value.int IntKind.i64 3)), 29, none) := by kernel_rfl
theorem ns25_16 : Region.noSelect (regOf Try.f25 16) = true := by kernel_rfl
theorem p25_16_0 : pj (regOf Try.f25 16) 0 = some (some 66, Op.load 27 (Operand.tmp 7), 27, none) := by kernel_rfl
theorem p25_16_1 : pj (regOf Try.f25 16) 1 = some (some 67, Op.move (Operand.tmp 5), 127, none) := by kernel_rfl
theorem p25_16_2 : pj (regOf Try.f25 16) 2 = some (some 68, Op.fieldAddr 27 (Operand.tmp 7) 2, 0, none) := by kernel_rfl
theorem p25_16_3 : pj (regOf Try.f25 16) 3 = some (some 69, Op.load 3 (Operand.tmp 68), 3, none) := by kernel_rfl
theorem p25_16_4 : pj (regOf Try.f25 16) 4 = some (some 70, Op.call { callee := Callee.value (Operand.func 74), args := #[Operand.tmp 67, Operand.tmp 69], argTypes := #[127, 3] }, 36, none) := by kernel_rfl
theorem p25_16_5 : pj (regOf Try.f25 16) 5 = some (none, Op.store 27 (Operand.tmp 2) (Operand.tmp 66), 0, none) := by kernel_rfl
theorem p25_16_6 : pj (regOf Try.f25 16) 6 = some (some 3, Op.assign (Operand.tmp 70), 36, none) := by kernel_rfl
theorem p25_16_7 : pj (regOf Try.f25 16) 7 = some (some 4, Op.assign (Operand.const (Value.int IntKind.i64 0)), 29, none) := by kernel_rfl
theorem p25_9_0 : pj (regOf Try.f25 9) 0 = some (some 46, Op.build 27 #[], 27, none) := by kernel_rfl
theorem p25_9_1 : pj (regOf Try.f25 9) 1 = some (none, Op.store 27 (Operand.tmp 2) (Operand.tmp 46), 0, none) := by kernel_rfl
theorem p25_9_2 : pj (regOf Try.f25 9) 2 = some (some 3, Op.assign (Operand.const (Value.slice none 0 0)), 36, none) := by kernel_rfl
theorem p25_9_3 : pj (regOf Try.f25 9) 3 = some (some 4, Op.assign (Operand.const (Value.int IntKind.i64 3)), 29, none) := by kernel_rfl
set_option maxHeartbeats 4000000 in
theorem dec_rest {R : Ending → World → Prop} (ad : Addr) (c : Nat) (l : List Int) (r4 ra rb r2 : Int) (s : Nat → Int) (d : Nat → Int) (h4 : joinF ((l.drop 0).take 4) = r4) (h4b : 0 ≤ r4 ∧ r4 < 4294967296) (h2 : joinF ((l.drop 4).take 2) = r2) (ha : joinF ((l.drop 6).take 1) = ra) (hb : joinF ((l.drop 7).take 1) = rb) (hs : (l.drop 8).take 16 = l16 s) (hd : (l.drop 24).take 16 = l16 d) (hby : ∀ x ∈ l, 0 ≤ x ∧ x ≤ 255) (hlc : l.length ≤ c) (hcm : c ≤ 9223372036854775807) (hlm : l.length ≤ 140737488355328) (hlo : 40 ≤ l.length) (w : World) (hC : Kd.C (Kd.int .u8) w (some ad) l.length l) (hver : ¬ r4 / 1048576 / 256 = 6 → ∀ w', Kp w w' (fun _ => False) → R (.returned (.tuple #[Value.agg (([Value.int .i64 0, Value.int .i64 0, Value.int .i64 0, Value.int .i64 0, Value.int .i64 0] ++ b16 (fun _ => 0) ++ b16 (fun _ => 0))).toArray, .slice none 0 0, .int .i64 3])) w') (hlong : r4 / 1048576 / 256 = 6 → 1280 < l.length → ∀ w', Kp w w' (fun _ => False) → R (.returned (.tuple #[Value.agg (([Value.int .i64 0, Value.int .i64 0, Value.int .i64 0, Value.int .i64 0, Value.int .i64 0] ++ b16 (fun _ => 0) ++ b16 (fun _ => 0))).toArray, .slice none 0 0, .int .i64 2])) w') (hfew : r4 / 1048576 / 256 = 6 → ¬ 1280 < l.length → (l.length : Int) - 40 < r2 → ∀ w', Kp w w' (fun _ => False) → R (.returned (.tuple #[Value.agg (([Value.int .i64 0, Value.int .i64 0, Value.int .i64 0, Value.int .i64 0, Value.int .i64 0] ++ b16 (fun _ => 0) ++ b16 (fun _ => 0))).toArray, .slice none 0 0, .int .i64 4])) w') (hmany : r4 / 1048576 / 256 = 6 → ¬ 1280 < l.length → r2 < (l.length : Int) - 40 → ∀ w', Kp w w' (fun _ => False) → R (.returned (.tuple #[Value.agg (([Value.int .i64 0, Value.int .i64 0, Value.int .i64 0, Value.int .i64 0, Value.int .i64 0] ++ b16 (fun _ => 0) ++ b16 (fun _ => 0))).toArray, .slice none 0 0, .int .i64 3])) w') (hok : r4 / 1048576 / 256 = 6 → ¬ 1280 < l.length → r2 = (l.length : Int) - 40 → ∀ A' c' w', w'.ownsRow w.heap.size 5 1 (.slice A' (l.length - 40) c') (l.length - 40) (encs (Value.int .u8) (l.drop 40)) → Kp w w' (fun _ => False) → R (.returned (.tuple #[Value.agg (([Value.int .i64 (r4 / 1048576 % 256), Value.int .i64 (r4 % 1048576), Value.int .i64 r2, Value.int .i64 ra, Value.int .i64 rb] ++ b16 s ++ b16 d)).toArray, .slice A' (l.length - 40) c', .int .i64 0])) w') : Calls Try.prog 25 #[Value.slice (some ad) l.length c] w R := by
  have K_0 := Kp.refl w (fun _ => False)
  have F_l : ∀ W', Kp w W' (fun _ => False) → Kd.C (Kd.int .u8) W' (some ad) l.length l := fun W' hk => Kd.C_below hC (hk.to (Nat.le_refl _) (fun _ h => h.elim))
  have hrest : (l.drop 40).take (l.length - 40) = l.drop 40 := List.take_of_length_le (by simp)
  refine enter (args := [Value.slice (some ad) l.length c]) (n := 71) Try.func25 body25 rfl rfl rfl ?_
  intro a hE
  refine c_reg R25_0_l ?_
  refine p_cons (s_alloc p25_0_0 hE wn_none rfl tZ27 ?_)
  clear hE a; intro g1 w2 z3 B_g1 hk a hE
  replace B_g1 : w2.heap[g1]? = some (.cells (([Value.int .i64 0, Value.int .i64 0, Value.int .i64 0, Value.int .i64 0, Value.int .i64 0] ++ b16 (fun _ => 0) ++ b16 (fun _ => 0))).toArray 27 (0, 0)) := B_g1
  have z_0_g1 := Nat.le_trans K_0.kept.1 z3
  replace K_0 := K_0.then_ hk (fun _ h => h.elim)
  clear hk
  refine p_cons (s_still p25_0_1 hE wn_none rfl (st_assign rfl) ?_)
  clear hE a; intro a hE
  refine p_cons (s_still p25_0_2 hE wn_none rfl (st_assign rfl) ?_)
  clear hE a; intro a hE
  refine p_nil ?_
  refine x_norm ?_
  refine c_reg R25_1_l ?_
  refine p_cons (s_still p25_1_0 hE wn_none rfl (st_move rfl) ?_)
  clear hE a; intro a hE
  refine p_cons (s_call (xs := [Operand.tmp 8]) (args := [Value.slice (some ad) l.length c]) p25_1_1 hE wn_none rfl rfl Try.func72 cl72 (over_g (some ad) l.length c _) ?_)
  rintro e w6 ⟨u4, z5, rfl, B_u4, hk⟩
  have n_g1_u4 : g1 ≠ u4 := ne_new B_g1 z5
  have z_0_u4 := Nat.le_trans K_0.kept.1 z5
  replace B_g1 := kp_blk B_g1 hk (fun h => h)
  replace K_0 := K_0.then_ hk (fun _ h => h.elim)
  refine ⟨_, rfl, ?_⟩
  clear hE a; intro a hE
  refine p_cons (s_still p25_1_2 hE wn_none rfl (st_assign rfl) ?_)
  clear hE a; intro a hE
  refine p_nil ?_
  refine x_norm ?_
  refine c_reg R25_2_l ?_
  refine p_cons (s_still p25_2_0 hE wn_none rfl (st_move rfl) ?_)
  clear hE a; intro a hE
  refine p_cons (s_call (xs := [Operand.tmp 10, Operand.const (Value.int IntKind.i64 4)]) (args := [Value.pointer (some ⟨u4, 0, none⟩), Value.int .i64 4]) p25_2_1 hE wn_none rfl rfl Try.func73 cl73 (Go.Proofs.Ytndiddfleidnaaa.Pk.take_ok u4 ad c l 0 4 4 r4 4294967296 h4 rfl rfl (by decide) (by decide) _ B_u4 (F_l _ K_0) hby (fun W hk => F_l _ (K_0.then_ hk (fun k h => by rw [show k = u4 from h]; exact Or.inr z_0_u4))) (by omega) (by omega) (by omega)) ?_)
  rintro e w7 ⟨rfl, B_u4', hk⟩
  replace B_g1 := kp_blk B_g1 hk n_g1_u4
  replace K_0 := K_0.then_ hk (fun k h => by rw [show k = u4 from h]; exact Or.inr z_0_u4)
  replace B_u4 : w7.heap[u4]? = some (.cells #[Value.slice (some ad) l.length c, .int .i64 4, .int .i64 0] 201 (0, 0)) := B_u4'
  try clear B_u4'
  refine ⟨_, rfl, ?_⟩
  clear hE a; intro a hE
  refine p_cons (s_still p25_2_2 hE wn_none rfl (st_assign rfl) ?_)
  clear hE a; intro a hE
  refine p_nil ?_
  refine x_norm ?_
  refine c_reg R25_3_l ?_
  refine p_cons (s_still p25_3_0 hE wn_none rfl (st_move rfl) ?_)
  clear hE a; intro a hE
  refine p_cons (s_still p25_3_1 hE wn_none rfl (st_quo (z := r4 / 1048576) rfl rfl (by decide) (by rw [Int.tdiv_eq_ediv_of_nonneg (by omega)]; exact wr_i64 _ (by omega) (by omega))) ?_)
  clear hE a; intro a hE
  refine p_cons (s_still p25_3_2 hE wn_none rfl (st_rem (z := (r4 / 1048576) % 256) rfl rfl (by decide) (Int.tmod_eq_emod_of_nonneg (by omega))) ?_)
  clear hE a; intro a hE
  refine p_cons (s_still p25_3_3 hE wn_none rfl (st_move rfl) ?_)
  clear hE a; intro a hE
  refine p_cons (s_still p25_3_4 hE wn_none rfl (st_rem (z := r4 % 1048576) rfl rfl (by decide) (Int.tmod_eq_emod_of_nonneg (by omega))) ?_)
  clear hE a; intro a hE
  refine p_cons (s_still p25_3_5 hE wn_none rfl (st_move rfl) ?_)
  clear hE a; intro a hE
  refine p_cons (s_call (xs := [Operand.tmp 17, Operand.const (Value.int IntKind.i64 2)]) (args := [Value.pointer (some ⟨u4, 0, none⟩), Value.int .i64 2]) p25_3_6 hE wn_none rfl rfl Try.func73 cl73 (Go.Proofs.Ytndiddfleidnaaa.Pk.take_ok u4 ad c l 4 2 6 r2 65536 h2 rfl rfl (by decide) (by decide) _ B_u4 (F_l _ K_0) hby (fun W hk => F_l _ (K_0.then_ hk (fun k h => by rw [show k = u4 from h]; exact Or.inr z_0_u4))) (by omega) (by omega) (by omega)) ?_)
  rintro e w8 ⟨rfl, B_u4', hk⟩
  replace B_g1 := kp_blk B_g1 hk n_g1_u4
  replace K_0 := K_0.then_ hk (fun k h => by rw [show k = u4 from h]; exact Or.inr z_0_u4)
  replace B_u4 : w8.heap[u4]? = some (.cells #[Value.slice (some ad) l.length c, .int .i64 6, .int .i64 0] 201 (0, 0)) := B_u4'
  try clear B_u4'
  refine ⟨_, rfl, ?_⟩
  clear hE a; intro a hE
  refine p_cons (s_still p25_3_7 hE wn_none rfl (st_move rfl) ?_)
  clear hE a; intro a hE
  refine p_cons (s_call (xs := [Operand.tmp 19, Operand.const (Value.int IntKind.i64 1)]) (args := [Value.pointer (some ⟨u4, 0, none⟩), Value.int .i64 1]) p25_3_8 hE wn_none rfl rfl Try.func73 cl73 (Go.Proofs.Ytndiddfleidnaaa.Pk.take_ok u4 ad c l 6 1 7 ra 256 ha rfl rfl (by decide) (by decide) _ B_u4 (F_l _ K_0) hby (fun W hk => F_l _ (K_0.then_ hk (fun k h => by rw [show k = u4 from h]; exact Or.inr z_0_u4))) (by omega) (by omega) (by omega)) ?_)
  rintro e w9 ⟨rfl, B_u4', hk⟩
  replace B_g1 := kp_blk B_g1 hk n_g1_u4
  replace K_0 := K_0.then_ hk (fun k h => by rw [show k = u4 from h]; exact Or.inr z_0_u4)
  replace B_u4 : w9.heap[u4]? = some (.cells #[Value.slice (some ad) l.length c, .int .i64 7, .int .i64 0] 201 (0, 0)) := B_u4'
  try clear B_u4'
  refine ⟨_, rfl, ?_⟩
  clear hE a; intro a hE
  refine p_cons (s_still p25_3_9 hE wn_none rfl (st_move rfl) ?_)
  clear hE a; intro a hE
  refine p_cons (s_call (xs := [Operand.tmp 21, Operand.const (Value.int IntKind.i64 1)]) (args := [Value.pointer (some ⟨u4, 0, none⟩), Value.int .i64 1]) p25_3_10 hE wn_none rfl rfl Try.func73 cl73 (Go.Proofs.Ytndiddfleidnaaa.Pk.take_ok u4 ad c l 7 1 8 rb 256 hb rfl rfl (by decide) (by decide) _ B_u4 (F_l _ K_0) hby (fun W hk => F_l _ (K_0.then_ hk (fun k h => by rw [show k = u4 from h]; exact Or.inr z_0_u4))) (by omega) (by omega) (by omega)) ?_)
  rintro e w10 ⟨rfl, B_u4', hk⟩
  replace B_g1 := kp_blk B_g1 hk n_g1_u4
  replace K_0 := K_0.then_ hk (fun k h => by rw [show k = u4 from h]; exact Or.inr z_0_u4)
  replace B_u4 : w10.heap[u4]? = some (.cells #[Value.slice (some ad) l.length c, .int .i64 8, .int .i64 0] 201 (0, 0)) := B_u4'
  try clear B_u4'
  refine ⟨_, rfl, ?_⟩
  clear hE a; intro a hE
  refine p_cons (s_still p25_3_11 hE wn_none rfl (st_build (xs := [(0, Operand.tmp 14), (1, Operand.tmp 16), (2, Operand.tmp 18), (3, Operand.tmp 20), (4, Operand.tmp 22)]) (vs := [(0, Value.int .i64 ((r4 / 1048576) % 256)), (1, Value.int .i64 (r4 % 1048576)), (2, Value.int .i64 r2), (3, Value.int .i64 ra), (4, Value.int .i64 rb)]) (cs := (([Value.int .i64 ((r4 / 1048576) % 256), Value.int .i64 (r4 % 1048576), Value.int .i64 r2, Value.int .i64 ra, Value.int .i64 rb] ++ b16 (fun _ => 0) ++ b16 (fun _ => 0))).toArray) rfl (by kernel_rfl)) ?_)
  clear hE a; intro a hE
  refine p_cons (s_alloc p25_3_12 hE wn_none rfl tZ27 ?_)
  clear hE a; intro g11 w12 z13 B_g11 hk a hE
  replace B_g11 : w12.heap[g11]? = some (.cells (([Value.int .i64 0, Value.int .i64 0, Value.int .i64 0, Value.int .i64 0, Value.int .i64 0] ++ b16 (fun _ => 0) ++ b16 (fun _ => 0))).toArray 27 (0, 0)) := B_g11
  have n_g1_g11 : g1 ≠ g11 := ne_new B_g1 z13
  have n_u4_g11 : u4 ≠ g11 := ne_new B_u4 z13
  have z_0_g11 := Nat.le_trans K_0.kept.1 z13
  replace B_g1 := kp_blk B_g1 hk (fun h => h)
  replace B_u4 := kp_blk B_u4 hk (fun h => h)
  replace K_0 := K_0.then_ hk (fun _ h => h.elim)
  clear hk
  refine p_cons (s_store (off := 0) (k := 37) (cs' := (([Value.int .i64 ((r4 / 1048576) % 256), Value.int .i64 (r4 % 1048576), Value.int .i64 r2, Value.int .i64 ra, Value.int .i64 rb] ++ b16 (fun _ => 0) ++ b16 (fun _ => 0))).toArray) p25_3_13 hE wn_none tS27 rfl rfl rfl rfl B_g11 (Nat.le_of_ble_eq_true rfl) rfl ?_)
  intro w14 B_g11' hk
  replace B_g1 := kp_blk B_g1 hk n_g1_g11
  replace B_u4 := kp_blk B_u4 hk n_u4_g11
  replace K_0 := K_0.then_ hk (fun k h => by rw [show k = g11 from h]; exact Or.inr z_0_g11)
  replace B_g11 := B_g11'
  clear hk
  refine p_nil ?_
  refine x_norm ?_
  refine c_drawS (S := fun W => W.heap[g1]? = some (.cells (([Value.int .i64 0, Value.int .i64 0, Value.int .i64 0, Value.int .i64 0, Value.int .i64 0] ++ b16 (fun _ => 0) ++ b16 (fun _ => 0))).toArray 27 (0, 0)) ∧ True) rfl rfl (listed := #[false, false, false, false, false]) rfl ?_
  intro w15 hh hk
  replace B_g1 := kp_blk B_g1 hk (fun h => h)
  replace B_u4 := kp_blk B_u4 hk (fun h => h)
  replace B_g11 := kp_blk B_g11 hk (fun h => h)
  replace K_0 := K_0.then_ hk (fun _ h => h.elim)
  clear hh hk
  refine d_take (v := Value.pointer (some ⟨g11, 5, none⟩)) p25_4_0 ns25_4 (by kernel_rfl) (by kernel_rfl) (fun _ _ _ h => h) hE wn_none rfl ⟨B_g1, trivial⟩ (fun W hS => (st_fieldAddr Try.underlying27 rfl tS25 rfl rfl)) rfl ?_
  clear hE a; intro a hE
  refine d_take (v := Value.slice (some ⟨g11, 5, none⟩) 16 16) p25_4_1 ns25_4 (by kernel_rfl) (by kernel_rfl) (fun _ _ _ h => h) hE wn_none rfl ⟨B_g1, trivial⟩ (fun W hS => (st_sliceA Try.underlying25 tS5 rfl)) rfl ?_
  clear hE a; intro a hE
  refine d_take (v := Value.pointer (some ⟨u4, 0, none⟩)) p25_4_2 ns25_4 (by kernel_rfl) (by kernel_rfl) (fun _ _ _ h => h) hE wn_none rfl ⟨B_g1, trivial⟩ (fun W hS => (st_move rfl)) rfl ?_
  clear hE a; intro a hE
  have hnb_g1 := blk_lt B_g1
  have hnb_u4 := blk_lt B_u4
  have hnb_g11 := blk_lt B_g11
  have hnz_0 := K_0.kept.1
  refine d_one (by kernel_rfl) rfl (s_call (xs := [Operand.tmp 26, Operand.const (Value.int IntKind.i64 16)]) (args := [Value.pointer (some ⟨u4, 0, none⟩), Value.int .i64 16]) p25_4_3 hE wn_none rfl rfl Try.func74 cl74 (Go.Proofs.Ytndiddfleidnaaa.Pk.bytes_ok u4 (some ad) c l 8 16 24 (by omega) _ B_u4 (by intro h; cases h) (fun W hk => F_l _ (K_0.then_ hk (fun k h => by rw [show k = u4 from h]; exact Or.inr z_0_u4))) (by omega) (by omega) (by omega) (by omega)) ?_)
  rintro e w19 ⟨⟨v, rfl, O_q16⟩, B_u4', hk⟩
  obtain ⟨A17, c18, rfl⟩ := own_sl O_q16
  rw [hs] at O_q16
  replace B_g1 := kp_blk B_g1 hk n_g1_u4
  replace B_g11 := kp_blk B_g11 hk (Ne.symm n_u4_g11)
  replace K_0 := K_0.then_ hk (fun k h => by rw [show k = u4 from h]; exact Or.inr z_0_u4)
  replace B_u4 : w19.heap[u4]? = some (.cells #[Value.slice (some ad) l.length c, .int .i64 24, .int .i64 0] 201 (0, 0)) := B_u4'
  try clear B_u4'
  have Nb_q16_g1 : ¬ OB A17 g1 := fun h => by have := (own_ob O_q16 h).1; have := hnb_g1; omega
  have Nb_q16_u4 : ¬ OB A17 u4 := fun h => by have := (own_ob O_q16 h).1; have := hnb_u4; omega
  have Nb_q16_g11 : ¬ OB A17 g11 := fun h => by have := (own_ob O_q16 h).1; have := hnb_g11; omega
  have Z_0_q16 : ∀ k, OB A17 k → (fun _ => False) k ∨ w.heap.size ≤ k := fun k h => .inr (by have := (own_ob O_q16 h).1; have := hnz_0; omega)
  replace O_q16 := own_lower O_q16 hnz_0
  refine ⟨_, rfl, ?_⟩
  clear hE a; intro a hE
  refine ⟨⟨B_g1, trivial⟩, ?_⟩
  refine d_one (by kernel_rfl) rfl (s_copy (k := .u8) (off := 5) (ys := (l16 s)) (cs' := (([Value.int .i64 ((r4 / 1048576) % 256), Value.int .i64 (r4 % 1048576), Value.int .i64 r2, Value.int .i64 ra, Value.int .i64 rb] ++ b16 s ++ b16 (fun _ => 0))).toArray) p25_4_4 hE wn_none rfl Try.underlying36 tS5 rfl rfl (own_told O_q16) (by omega) B_g11 (Nat.le_of_ble_eq_true rfl) rfl ?_)
  clear hE a; intro w20 B_g11' hk a hE
  replace B_g1 := kp_blk B_g1 hk n_g1_g11
  replace B_u4 := kp_blk B_u4 hk n_u4_g11
  replace O_q16 := own_keep O_q16 hk (fun k hk2 h2 => Nb_q16_g11 (by rw [show k = g11 from h2] at hk2; exact hk2))
  replace K_0 := K_0.then_ hk (fun k h => by rw [show k = g11 from h]; exact Or.inr z_0_g11)
  replace B_g11 := B_g11'
  clear hk
  refine ⟨⟨B_g1, trivial⟩, ?_⟩
  refine d_end (by kernel_rfl) ?_
  refine x_norm ?_
  refine c_drawS (S := fun W => W.heap[g1]? = some (.cells (([Value.int .i64 0, Value.int .i64 0, Value.int .i64 0, Value.int .i64 0, Value.int .i64 0] ++ b16 (fun _ => 0) ++ b16 (fun _ => 0))).toArray 27 (0, 0)) ∧ True) rfl rfl (listed := #[false, false, false, false, false]) rfl ?_
  intro w21 hh hk
  replace B_g1 := kp_blk B_g1 hk (fun h => h)
  replace B_u4 := kp_blk B_u4 hk (fun h => h)
  replace B_g11 := kp_blk B_g11 hk (fun h => h)
  replace O_q16 := own_keep O_q16 hk (fun _ _ h => h)
  replace K_0 := K_0.then_ hk (fun _ h => h.elim)
  clear hh hk
  refine d_take (v := Value.pointer (some ⟨g11, 21, none⟩)) p25_5_0 ns25_5 (by kernel_rfl) (by kernel_rfl) (fun _ _ _ h => h) hE wn_none rfl ⟨B_g1, trivial⟩ (fun W hS => (st_fieldAddr Try.underlying27 rfl tS25 rfl rfl)) rfl ?_
  clear hE a; intro a hE
  refine d_take (v := Value.slice (some ⟨g11, 21, none⟩) 16 16) p25_5_1 ns25_5 (by kernel_rfl) (by kernel_rfl) (fun _ _ _ h => h) hE wn_none rfl ⟨B_g1, trivial⟩ (fun W hS => (st_sliceA Try.underlying25 tS5 rfl)) rfl ?_
  clear hE a; intro a hE
  refine d_take (v := Value.pointer (some ⟨u4, 0, none⟩)) p25_5_2 ns25_5 (by kernel_rfl) (by kernel_rfl) (fun _ _ _ h => h) hE wn_none rfl ⟨B_g1, trivial⟩ (fun W hS => (st_move rfl)) rfl ?_
  clear hE a; intro a hE
  have hnb_g1 := blk_lt B_g1
  have hnb_u4 := blk_lt B_u4
  have hnb_g11 := blk_lt B_g11
  have hnz_0 := K_0.kept.1
  have hno_q16 := fun k (h : OB A17 k) => (own_ob O_q16 h).2
  refine d_one (by kernel_rfl) rfl (s_call (xs := [Operand.tmp 31, Operand.const (Value.int IntKind.i64 16)]) (args := [Value.pointer (some ⟨u4, 0, none⟩), Value.int .i64 16]) p25_5_3 hE wn_none rfl rfl Try.func74 cl74 (Go.Proofs.Ytndiddfleidnaaa.Pk.bytes_ok u4 (some ad) c l 24 16 40 (by omega) _ B_u4 (by intro h; cases h) (fun W hk => F_l _ (K_0.then_ hk (fun k h => by rw [show k = u4 from h]; exact Or.inr z_0_u4))) (by omega) (by omega) (by omega) (by omega)) ?_)
  rintro e w25 ⟨⟨v, rfl, O_q22⟩, B_u4', hk⟩
  obtain ⟨A23, c24, rfl⟩ := own_sl O_q22
  rw [hd] at O_q22
  replace B_g1 := kp_blk B_g1 hk n_g1_u4
  replace B_g11 := kp_blk B_g11 hk (Ne.symm n_u4_g11)
  replace O_q16 := own_keep O_q16 hk (fun k hk2 h2 => Nb_q16_u4 (by rw [show k = u4 from h2] at hk2; exact hk2))
  replace K_0 := K_0.then_ hk (fun k h => by rw [show k = u4 from h]; exact Or.inr z_0_u4)
  replace B_u4 : w25.heap[u4]? = some (.cells #[Value.slice (some ad) l.length c, .int .i64 40, .int .i64 0] 201 (0, 0)) := B_u4'
  try clear B_u4'
  have Nb_q22_g1 : ¬ OB A23 g1 := fun h => by have := (own_ob O_q22 h).1; have := hnb_g1; omega
  have Nb_q22_u4 : ¬ OB A23 u4 := fun h => by have := (own_ob O_q22 h).1; have := hnb_u4; omega
  have Nb_q22_g11 : ¬ OB A23 g11 := fun h => by have := (own_ob O_q22 h).1; have := hnb_g11; omega
  have Z_0_q22 : ∀ k, OB A23 k → (fun _ => False) k ∨ w.heap.size ≤ k := fun k h => .inr (by have := (own_ob O_q22 h).1; have := hnz_0; omega)
  have NN_q22_q16 : ∀ k, OB A23 k → ¬ OB A17 k := fun k h h2 => by have := (own_ob O_q22 h).1; have := hno_q16 k h2; omega
  have NN_q16_q22 : ∀ k, OB A17 k → ¬ OB A23 k := fun k h h2 => NN_q22_q16 k h2 h
  replace O_q22 := own_lower O_q22 hnz_0
  refine ⟨_, rfl, ?_⟩
  clear hE a; intro a hE
  refine ⟨⟨B_g1, trivial⟩, ?_⟩
  refine d_one (by kernel_rfl) rfl (s_copy (k := .u8) (off := 21) (ys := (l16 d)) (cs' := (([Value.int .i64 ((r4 / 1048576) % 256), Value.int .i64 (r4 % 1048576), Value.int .i64 r2, Value.int .i64 ra, Value.int .i64 rb] ++ b16 s ++ b16 d)).toArray) p25_5_4 hE wn_none rfl Try.underlying36 tS5 rfl rfl (own_told O_q22) (by omega) B_g11 (Nat.le_of_ble_eq_true rfl) rfl ?_)
  clear hE a; intro w26 B_g11' hk a hE
  replace B_g1 := kp_blk B_g1 hk n_g1_g11
  replace B_u4 := kp_blk B_u4 hk n_u4_g11
  replace O_q16 := own_keep O_q16 hk (fun k hk2 h2 => Nb_q16_g11 (by rw [show k = g11 from h2] at hk2; exact hk2))
  replace O_q22 := own_keep O_q22 hk (fun k hk2 h2 => Nb_q22_g11 (by rw [show k = g11 from h2] at hk2; exact hk2))
  replace K_0 := K_0.then_ hk (fun k h => by rw [show k = g11 from h]; exact Or.inr z_0_g11)
  replace B_g11 := B_g11'
  clear hk
  refine ⟨⟨B_g1, trivial⟩, ?_⟩
  refine d_end (by kernel_rfl) ?_
  refine x_norm ?_
  refine wp_seq ?_
  refine wp_block ?_
  refine c_reg R25_6_l ?_
  refine p_cons (s_still p25_6_0 hE wn_none rfl (st_move rfl) ?_)
  clear hE a; intro a hE
  refine p_cons (s_call (xs := [Operand.tmp 35]) (args := [Value.pointer (some ⟨u4, 0, none⟩)]) p25_6_1 hE wn_none rfl rfl Try.func75 cl75 (Go.Proofs.Ytndiddfleidnaaa.Pk.err_any u4 (some ad) l.length c 40 0 _ B_u4) ?_)
  rintro e w27 ⟨rfl, hw⟩
  have hk := kp_eq hw (fun _ => False)
  replace B_g1 := kp_blk B_g1 hk (fun h => h)
  replace B_u4 := kp_blk B_u4 hk (fun h => h)
  replace B_g11 := kp_blk B_g11 hk (fun h => h)
  replace O_q16 := own_keep O_q16 hk (fun _ _ h => h)
  replace O_q22 := own_keep O_q22 hk (fun _ _ h => h)
  replace K_0 := K_0.then_ hk (fun _ h => h.elim)
  refine ⟨_, rfl, ?_⟩
  clear hE a; intro a hE
  refine p_cons (s_still p25_6_2 hE wn_none rfl (st_neq (b := false) rfl rfl (by decide)) ?_)
  clear hE a; intro a hE
  refine p_cons (s_still p25_6_3 hE wn_none rfl (st_assign rfl) ?_)
  clear hE a; intro a hE
  refine p_nil ?_
  refine x_norm ?_
  refine c_cond (t := false) hE rfl ?_
  refine c_reg R25_8_l ?_
  refine p_cons (s_still p25_8_0 hE wn_none rfl (st_move rfl) ?_)
  clear hE a; intro a hE
  refine p_cons (s_still p25_8_1 hE wn_none rfl (st_quo (z := r4 / 1048576) rfl rfl (by decide) (by rw [Int.tdiv_eq_ediv_of_nonneg (by omega)]; exact wr_i64 _ (by omega) (by omega))) ?_)
  clear hE a; intro a hE
  refine p_cons (s_still p25_8_2 hE wn_none rfl (st_quo (z := (r4 / 1048576) / 256) rfl rfl (by decide) (by rw [Int.tdiv_eq_ediv_of_nonneg (by omega)]; exact wr_i64 _ (by omega) (by omega))) ?_)
  clear hE a; intro a hE
  rcases Decidable.em (((r4 / 1048576) / 256) = 6) with hc28 | hc28
  ·
    refine p_cons (s_still (v := Value.bool false) p25_8_3 hE wn_none rfl (st_neq rfl rfl (by simp [hc28])) ?_)
    clear hE a; intro a hE
    refine p_cons (s_still p25_8_4 hE wn_none rfl (st_assign rfl) ?_)
    clear hE a; intro a hE
    refine p_nil ?_
    refine x_norm ?_
    refine c_cond (t := false) hE rfl ?_
    refine c_reg R25_10_l ?_
    refine p_cons (s_still p25_10_0 hE wn_none rfl (st_move rfl) ?_)
    clear hE a; intro a hE
    refine p_cons (s_still p25_10_1 hE wn_none rfl (st_len Try.underlying36 rfl) ?_)
    clear hE a; intro a hE
    rcases Decidable.em (1280 < (l.length : Int)) with hc29 | hc29
    ·
      refine p_cons (s_still (v := Value.bool true) p25_10_2 hE wn_none rfl (st_gtr rfl rfl (decide_eq_true hc29)) ?_)
      clear hE a; intro a hE
      refine p_cons (s_still p25_10_3 hE wn_none rfl (st_assign rfl) ?_)
      clear hE a; intro a hE
      refine p_nil ?_
      refine x_norm ?_
      refine c_cond (t := true) hE rfl ?_
      refine c_reg R25_11_l ?_
      refine p_cons (s_still p25_11_0 hE wn_none rfl (st_build (xs := []) (vs := []) (cs := (([Value.int .i64 0, Value.int .i64 0, Value.int .i64 0, Value.int .i64 0, Value.int .i64 0] ++ b16 (fun _ => 0) ++ b16 (fun _ => 0))).toArray) rfl (by kernel_rfl)) ?_)
      clear hE a; intro a hE
      refine p_cons (s_store (off := 0) (k := 37) (cs' := (([Value.int .i64 0, Value.int .i64 0, Value.int .i64 0, Value.int .i64 0, Value.int .i64 0] ++ b16 (fun _ => 0) ++ b16 (fun _ => 0))).toArray) p25_11_1 hE wn_none tS27 rfl rfl rfl rfl B_g1 (Nat.le_of_ble_eq_true rfl) rfl ?_)
      intro w30 B_g1' hk
      replace B_u4 := kp_blk B_u4 hk (Ne.symm n_g1_u4)
      replace B_g11 := kp_blk B_g11 hk (Ne.symm n_g1_g11)
      replace O_q16 := own_keep O_q16 hk (fun k hk2 h2 => Nb_q16_g1 (by rw [show k = g1 from h2] at hk2; exact hk2))
      replace O_q22 := own_keep O_q22 hk (fun k hk2 h2 => Nb_q22_g1 (by rw [show k = g1 from h2] at hk2; exact hk2))
      replace K_0 := K_0.then_ hk (fun k h => by rw [show k = g1 from h]; exact Or.inr z_0_g1)
      replace B_g1 := B_g1'
      clear hk
      refine p_cons (s_still p25_11_2 hE wn_none rfl (st_assign rfl) ?_)
      clear hE a; intro a hE
      refine p_cons (s_still p25_11_3 hE wn_none rfl (st_assign rfl) ?_)
      clear hE a; intro a hE
      refine p_nil ?_
      refine x_norm ?_
      refine wp_ret ?_
      refine x_retB ?_
      refine x_ret ?_
      refine ret_list (rs := [.cell 2 27, .tmp 3, .tmp 4]) (vs := [Value.agg (([Value.int .i64 0, Value.int .i64 0, Value.int .i64 0, Value.int .i64 0, Value.int .i64 0] ++ b16 (fun _ => 0) ++ b16 (fun _ => 0))).toArray, Value.slice none 0 0, Value.int .i64 2]) rfl hE (.cellN (us := ([Value.int .i64 0, Value.int .i64 0, Value.int .i64 0, Value.int .i64 0, Value.int .i64 0] ++ b16 (fun _ => 0) ++ b16 (fun _ => 0))) tA27 tS27 rfl B_g1 rfl (.tmp rfl (.tmp rfl .nil))) rfl ?_
      exact hlong (by omega) (by omega) _ K_0
    ·
      refine p_cons (s_still (v := Value.bool false) p25_10_2 hE wn_none rfl (st_gtr rfl rfl (decide_eq_false hc29)) ?_)
      clear hE a; intro a hE
      refine p_cons (s_still p25_10_3 hE wn_none rfl (st_assign rfl) ?_)
      clear hE a; intro a hE
      refine p_nil ?_
      refine x_norm ?_
      refine c_cond (t := false) hE rfl ?_
      rcases Decidable.em ((l.length : Int) - 40 < r2) with h12 | h12
      ·
        refine c_drawS (S := fun W => W.heap[g1]? = some (.cells (([Value.int .i64 0, Value.int .i64 0, Value.int .i64 0, Value.int .i64 0, Value.int .i64 0] ++ b16 (fun _ => 0) ++ b16 (fun _ => 0))).toArray 27 (0, 0)) ∧ W.heap[g11]? = some (.cells (([Value.int .i64 ((r4 / 1048576) % 256), Value.int .i64 (r4 % 1048576), Value.int .i64 r2, Value.int .i64 ra, Value.int .i64 rb] ++ b16 s ++ b16 d)).toArray 27 (0, 0)) ∧ True) rfl rfl (listed := #[false, false, false, false, false, false]) rfl ?_
        intro w31 hh hk
        replace B_g1 := kp_blk B_g1 hk (fun h => h)
        replace B_u4 := kp_blk B_u4 hk (fun h => h)
        replace B_g11 := kp_blk B_g11 hk (fun h => h)
        replace O_q16 := own_keep O_q16 hk (fun _ _ h => h)
        replace O_q22 := own_keep O_q22 hk (fun _ _ h => h)
        replace K_0 := K_0.then_ hk (fun _ h => h.elim)
        clear hh hk
        refine d_take (v := Value.pointer (some ⟨u4, 0, none⟩)) p25_12_0 ns25_12 (by kernel_rfl) (by kernel_rfl) (fun _ _ _ h => h) hE wn_none rfl ⟨B_g1, B_g11, trivial⟩ (fun W hS => (st_move rfl)) rfl ?_
        clear hE a; intro a hE
        refine d_take (v := Value.pointer (some ⟨g11, 2, none⟩)) p25_12_2 ns25_12 (by kernel_rfl) (by kernel_rfl) (fun _ _ _ h => h) hE wn_none rfl ⟨B_g1, B_g11, trivial⟩ (fun W hS => (st_fieldAddr Try.underlying27 rfl tS3 rfl rfl)) rfl ?_
        clear hE a; intro a hE
        refine d_take (v := Value.int .i64 r2) p25_12_3 ns25_12 (by kernel_rfl) (by kernel_rfl) (fun _ _ _ h => h) hE wn_none rfl ⟨B_g1, B_g11, trivial⟩ (fun W hS => (st_load1 tA3 rfl ((blk_cell hS.2.1 2).trans rfl))) rfl ?_
        clear hE a; intro a hE
        refine d_one (by kernel_rfl) rfl (s_call (xs := [Operand.tmp 53]) (args := [Value.pointer (some ⟨u4, 0, none⟩)]) p25_12_1 hE wn_none rfl rfl Try.func76 cl76 (Go.Proofs.Ytndiddfleidnaaa.Pk.Left_any u4 (some ad) l.length c 40 0 _ B_u4 (by omega) (by omega) (by omega)) ?_)
        rintro e w32 ⟨rfl, hn⟩
        have hk := kp_n hn (fun _ => False)
        replace B_g1 := kp_blk B_g1 hk (fun h => h)
        replace B_u4 := kp_blk B_u4 hk (fun h => h)
        replace B_g11 := kp_blk B_g11 hk (fun h => h)
        replace O_q16 := own_keep O_q16 hk (fun _ _ h => h)
        replace O_q22 := own_keep O_q22 hk (fun _ _ h => h)
        replace K_0 := K_0.then_ hk (fun _ h => h.elim)
        refine ⟨_, rfl, ?_⟩
        clear hE a; intro a hE
        refine ⟨⟨B_g1, B_g11, trivial⟩, ?_⟩
        refine d_take (v := Value.bool true) p25_12_4 ns25_12 (by kernel_rfl) (by kernel_rfl) (fun _ _ _ h => h) hE wn_none rfl ⟨B_g1, B_g11, trivial⟩ (fun W hS => (st_lss (b := true) rfl rfl (decide_eq_true h12))) rfl ?_
        clear hE a; intro a hE
        refine d_take (v := Value.bool true) p25_12_5 ns25_12 (by kernel_rfl) (by kernel_rfl) (fun _ _ _ h => h) hE wn_none rfl ⟨B_g1, B_g11, trivial⟩ (fun W hS => (st_assign rfl)) rfl ?_
        clear hE a; intro a hE
        refine d_end (by kernel_rfl) ?_
        refine x_norm ?_
        refine c_cond (t := true) hE rfl ?_
        refine c_reg R25_13_l ?_
        refine p_cons (s_still p25_13_0 hE wn_none rfl (st_build (xs := []) (vs := []) (cs := (([Value.int .i64 0, Value.int .i64 0, Value.int .i64 0, Value.int .i64 0, Value.int .i64 0] ++ b16 (fun _ => 0) ++ b16 (fun _ => 0))).toArray) rfl (by kernel_rfl)) ?_)
        clear hE a; intro a hE
        refine p_cons (s_store (off := 0) (k := 37) (cs' := (([Value.int .i64 0, Value.int .i64 0, Value.int .i64 0, Value.int .i64 0, Value.int .i64 0] ++ b16 (fun _ => 0) ++ b16 (fun _ => 0))).toArray) p25_13_1 hE wn_none tS27 rfl rfl rfl rfl B_g1 (Nat.le_of_ble_eq_true rfl) rfl ?_)
        intro w33 B_g1' hk
        replace B_u4 := kp_blk B_u4 hk (Ne.symm n_g1_u4)
        replace B_g11 := kp_blk B_g11 hk (Ne.symm n_g1_g11)
        replace O_q16 := own_keep O_q16 hk (fun k hk2 h2 => Nb_q16_g1 (by rw [show k = g1 from h2] at hk2; exact hk2))
        replace O_q22 := own_keep O_q22 hk (fun k hk2 h2 => Nb_q22_g1 (by rw [show k = g1 from h2] at hk2; exact hk2))
        replace K_0 := K_0.then_ hk (fun k h => by rw [show k = g1 from h]; exact Or.inr z_0_g1)
        replace B_g1 := B_g1'
        clear hk
        refine p_cons (s_still p25_13_2 hE wn_none rfl (st_assign rfl) ?_)
        clear hE a; intro a hE
        refine p_cons (s_still p25_13_3 hE wn_none rfl (st_assign rfl) ?_)
        clear hE a; intro a hE
        refine p_nil ?_
        refine x_norm ?_
        refine wp_ret ?_
        refine x_retB ?_
        refine x_ret ?_
        refine ret_list (rs := [.cell 2 27, .tmp 3, .tmp 4]) (vs := [Value.agg (([Value.int .i64 0, Value.int .i64 0, Value.int .i64 0, Value.int .i64 0, Value.int .i64 0] ++ b16 (fun _ => 0) ++ b16 (fun _ => 0))).toArray, Value.slice none 0 0, Value.int .i64 4]) rfl hE (.cellN (us := ([Value.int .i64 0, Value.int .i64 0, Value.int .i64 0, Value.int .i64 0, Value.int .i64 0] ++ b16 (fun _ => 0) ++ b16 (fun _ => 0))) tA27 tS27 rfl B_g1 rfl (.tmp rfl (.tmp rfl .nil))) rfl ?_
        exact hfew (by omega) (by omega) (by omega) _ K_0
      ·
        refine c_drawS (S := fun W => W.heap[g1]? = some (.cells (([Value.int .i64 0, Value.int .i64 0, Value.int .i64 0, Value.int .i64 0, Value.int .i64 0] ++ b16 (fun _ => 0) ++ b16 (fun _ => 0))).toArray 27 (0, 0)) ∧ W.heap[g11]? = some (.cells (([Value.int .i64 ((r4 / 1048576) % 256), Value.int .i64 (r4 % 1048576), Value.int .i64 r2, Value.int .i64 ra, Value.int .i64 rb] ++ b16 s ++ b16 d)).toArray 27 (0, 0)) ∧ True) rfl rfl (listed := #[false, false, false, false, false, false]) rfl ?_
        intro w34 hh hk
        replace B_g1 := kp_blk B_g1 hk (fun h => h)
        replace B_u4 := kp_blk B_u4 hk (fun h => h)
        replace B_g11 := kp_blk B_g11 hk (fun h => h)
        replace O_q16 := own_keep O_q16 hk (fun _ _ h => h)
        replace O_q22 := own_keep O_q22 hk (fun _ _ h => h)
        replace K_0 := K_0.then_ hk (fun _ h => h.elim)
        clear hh hk
        refine d_take (v := Value.pointer (some ⟨u4, 0, none⟩)) p25_12_0 ns25_12 (by kernel_rfl) (by kernel_rfl) (fun _ _ _ h => h) hE wn_none rfl ⟨B_g1, B_g11, trivial⟩ (fun W hS => (st_move rfl)) rfl ?_
        clear hE a; intro a hE
        refine d_take (v := Value.pointer (some ⟨g11, 2, none⟩)) p25_12_2 ns25_12 (by kernel_rfl) (by kernel_rfl) (fun _ _ _ h => h) hE wn_none rfl ⟨B_g1, B_g11, trivial⟩ (fun W hS => (st_fieldAddr Try.underlying27 rfl tS3 rfl rfl)) rfl ?_
        clear hE a; intro a hE
        refine d_take (v := Value.int .i64 r2) p25_12_3 ns25_12 (by kernel_rfl) (by kernel_rfl) (fun _ _ _ h => h) hE wn_none rfl ⟨B_g1, B_g11, trivial⟩ (fun W hS => (st_load1 tA3 rfl ((blk_cell hS.2.1 2).trans rfl))) rfl ?_
        clear hE a; intro a hE
        refine d_one (by kernel_rfl) rfl (s_call (xs := [Operand.tmp 53]) (args := [Value.pointer (some ⟨u4, 0, none⟩)]) p25_12_1 hE wn_none rfl rfl Try.func76 cl76 (Go.Proofs.Ytndiddfleidnaaa.Pk.Left_any u4 (some ad) l.length c 40 0 _ B_u4 (by omega) (by omega) (by omega)) ?_)
        rintro e w35 ⟨rfl, hn⟩
        have hk := kp_n hn (fun _ => False)
        replace B_g1 := kp_blk B_g1 hk (fun h => h)
        replace B_u4 := kp_blk B_u4 hk (fun h => h)
        replace B_g11 := kp_blk B_g11 hk (fun h => h)
        replace O_q16 := own_keep O_q16 hk (fun _ _ h => h)
        replace O_q22 := own_keep O_q22 hk (fun _ _ h => h)
        replace K_0 := K_0.then_ hk (fun _ h => h.elim)
        refine ⟨_, rfl, ?_⟩
        clear hE a; intro a hE
        refine ⟨⟨B_g1, B_g11, trivial⟩, ?_⟩
        refine d_take (v := Value.bool false) p25_12_4 ns25_12 (by kernel_rfl) (by kernel_rfl) (fun _ _ _ h => h) hE wn_none rfl ⟨B_g1, B_g11, trivial⟩ (fun W hS => (st_lss (b := false) rfl rfl (decide_eq_false h12))) rfl ?_
        clear hE a; intro a hE
        refine d_take (v := Value.bool false) p25_12_5 ns25_12 (by kernel_rfl) (by kernel_rfl) (fun _ _ _ h => h) hE wn_none rfl ⟨B_g1, B_g11, trivial⟩ (fun W hS => (st_assign rfl)) rfl ?_
        clear hE a; intro a hE
        refine d_end (by kernel_rfl) ?_
        refine x_norm ?_
        refine c_cond (t := false) hE rfl ?_
        rcases Decidable.em (r2 < (l.length : Int) - 40) with h14 | h14
        ·
          refine c_drawS (S := fun W => W.heap[g1]? = some (.cells (([Value.int .i64 0, Value.int .i64 0, Value.int .i64 0, Value.int .i64 0, Value.int .i64 0] ++ b16 (fun _ => 0) ++ b16 (fun _ => 0))).toArray 27 (0, 0)) ∧ W.heap[g11]? = some (.cells (([Value.int .i64 ((r4 / 1048576) % 256), Value.int .i64 (r4 % 1048576), Value.int .i64 r2, Value.int .i64 ra, Value.int .i64 rb] ++ b16 s ++ b16 d)).toArray 27 (0, 0)) ∧ True) rfl rfl (listed := #[false, false, false, false, false, false]) rfl ?_
          intro w36 hh hk
          replace B_g1 := kp_blk B_g1 hk (fun h => h)
          replace B_u4 := kp_blk B_u4 hk (fun h => h)
          replace B_g11 := kp_blk B_g11 hk (fun h => h)
          replace O_q16 := own_keep O_q16 hk (fun _ _ h => h)
          replace O_q22 := own_keep O_q22 hk (fun _ _ h => h)
          replace K_0 := K_0.then_ hk (fun _ h => h.elim)
          clear hh hk
          refine d_take (v := Value.pointer (some ⟨u4, 0, none⟩)) p25_14_0 ns25_14 (by kernel_rfl) (by kernel_rfl) (fun _ _ _ h => h) hE wn_none rfl ⟨B_g1, B_g11, trivial⟩ (fun W hS => (st_move rfl)) rfl ?_
          clear hE a; intro a hE
          refine d_take (v := Value.pointer (some ⟨g11, 2, none⟩)) p25_14_2 ns25_14 (by kernel_rfl) (by kernel_rfl) (fun _ _ _ h => h) hE wn_none rfl ⟨B_g1, B_g11, trivial⟩ (fun W hS => (st_fieldAddr Try.underlying27 rfl tS3 rfl rfl)) rfl ?_
          clear hE a; intro a hE
          refine d_take (v := Value.int .i64 r2) p25_14_3 ns25_14 (by kernel_rfl) (by kernel_rfl) (fun _ _ _ h => h) hE wn_none rfl ⟨B_g1, B_g11, trivial⟩ (fun W hS => (st_load1 tA3 rfl ((blk_cell hS.2.1 2).trans rfl))) rfl ?_
          clear hE a; intro a hE
          refine d_one (by kernel_rfl) rfl (s_call (xs := [Operand.tmp 60]) (args := [Value.pointer (some ⟨u4, 0, none⟩)]) p25_14_1 hE wn_none rfl rfl Try.func76 cl76 (Go.Proofs.Ytndiddfleidnaaa.Pk.Left_any u4 (some ad) l.length c 40 0 _ B_u4 (by omega) (by omega) (by omega)) ?_)
          rintro e w37 ⟨rfl, hn⟩
          have hk := kp_n hn (fun _ => False)
          replace B_g1 := kp_blk B_g1 hk (fun h => h)
          replace B_u4 := kp_blk B_u4 hk (fun h => h)
          replace B_g11 := kp_blk B_g11 hk (fun h => h)
          replace O_q16 := own_keep O_q16 hk (fun _ _ h => h)
          replace O_q22 := own_keep O_q22 hk (fun _ _ h => h)
          replace K_0 := K_0.then_ hk (fun _ h => h.elim)
          refine ⟨_, rfl, ?_⟩
          clear hE a; intro a hE
          refine ⟨⟨B_g1, B_g11, trivial⟩, ?_⟩
          refine d_take (v := Value.bool true) p25_14_4 ns25_14 (by kernel_rfl) (by kernel_rfl) (fun _ _ _ h => h) hE wn_none rfl ⟨B_g1, B_g11, trivial⟩ (fun W hS => (st_gtr (b := true) rfl rfl (decide_eq_true h14))) rfl ?_
          clear hE a; intro a hE
          refine d_take (v := Value.bool true) p25_14_5 ns25_14 (by kernel_rfl) (by kernel_rfl) (fun _ _ _ h => h) hE wn_none rfl ⟨B_g1, B_g11, trivial⟩ (fun W hS => (st_assign rfl)) rfl ?_
          clear hE a; intro a hE
          refine d_end (by kernel_rfl) ?_
          refine x_norm ?_
          refine c_cond (t := true) hE rfl ?_
          refine c_reg R25_15_l ?_
          refine p_cons (s_still p25_15_0 hE wn_none rfl (st_build (xs := []) (vs := []) (cs := (([Value.int .i64 0, Value.int .i64 0, Value.int .i64 0, Value.int .i64 0, Value.int .i64 0] ++ b16 (fun _ => 0) ++ b16 (fun _ => 0))).toArray) rfl (by kernel_rfl)) ?_)
          clear hE a; intro a hE
          refine p_cons (s_store (off := 0) (k := 37) (cs' := (([Value.int .i64 0, Value.int .i64 0, Value.int .i64 0, Value.int .i64 0, Value.int .i64 0] ++ b16 (fun _ => 0) ++ b16 (fun _ => 0))).toArray) p25_15_1 hE wn_none tS27 rfl rfl rfl rfl B_g1 (Nat.le_of_ble_eq_true rfl) rfl ?_)
          intro w38 B_g1' hk
          replace B_u4 := kp_blk B_u4 hk (Ne.symm n_g1_u4)
          replace B_g11 := kp_blk B_g11 hk (Ne.symm n_g1_g11)
          replace O_q16 := own_keep O_q16 hk (fun k hk2 h2 => Nb_q16_g1 (by rw [show k = g1 from h2] at hk2; exact hk2))
          replace O_q22 := own_keep O_q22 hk (fun k hk2 h2 => Nb_q22_g1 (by rw [show k = g1 from h2] at hk2; exact hk2))
          replace K_0 := K_0.then_ hk (fun k h => by rw [show k = g1 from h]; exact Or.inr z_0_g1)
          replace B_g1 := B_g1'
          clear hk
          refine p_cons (s_still p25_15_2 hE wn_none rfl (st_assign rfl) ?_)
          clear hE a; intro a hE
          refine p_cons (s_still p25_15_3 hE wn_none rfl (st_assign rfl) ?_)
          clear hE a; intro a hE
          refine p_nil ?_
          refine x_norm ?_
          refine wp_ret ?_
          refine x_retB ?_
          refine x_ret ?_
          refine ret_list (rs := [.cell 2 27, .tmp 3, .tmp 4]) (vs := [Value.agg (([Value.int .i64 0, Value.int .i64 0, Value.int .i64 0, Value.int .i64 0, Value.int .i64 0] ++ b16 (fun _ => 0) ++ b16 (fun _ => 0))).toArray, Value.slice none 0 0, Value.int .i64 3]) rfl hE (.cellN (us := ([Value.int .i64 0, Value.int .i64 0, Value.int .i64 0, Value.int .i64 0, Value.int .i64 0] ++ b16 (fun _ => 0) ++ b16 (fun _ => 0))) tA27 tS27 rfl B_g1 rfl (.tmp rfl (.tmp rfl .nil))) rfl ?_
          first | exact hver (by omega) _ K_0 | exact hmany (by omega) (by omega) (by omega) _ K_0
        ·
          refine c_drawS (S := fun W => W.heap[g1]? = some (.cells (([Value.int .i64 0, Value.int .i64 0, Value.int .i64 0, Value.int .i64 0, Value.int .i64 0] ++ b16 (fun _ => 0) ++ b16 (fun _ => 0))).toArray 27 (0, 0)) ∧ W.heap[g11]? = some (.cells (([Value.int .i64 ((r4 / 1048576) % 256), Value.int .i64 (r4 % 1048576), Value.int .i64 r2, Value.int .i64 ra, Value.int .i64 rb] ++ b16 s ++ b16 d)).toArray 27 (0, 0)) ∧ True) rfl rfl (listed := #[false, false, false, false, false, false]) rfl ?_
          intro w39 hh hk
          replace B_g1 := kp_blk B_g1 hk (fun h => h)
          replace B_u4 := kp_blk B_u4 hk (fun h => h)
          replace B_g11 := kp_blk B_g11 hk (fun h => h)
          replace O_q16 := own_keep O_q16 hk (fun _ _ h => h)
          replace O_q22 := own_keep O_q22 hk (fun _ _ h => h)
          replace K_0 := K_0.then_ hk (fun _ h => h.elim)
          clear hh hk
          refine d_take (v := Value.pointer (some ⟨u4, 0, none⟩)) p25_14_0 ns25_14 (by kernel_rfl) (by kernel_rfl) (fun _ _ _ h => h) hE wn_none rfl ⟨B_g1, B_g11, trivial⟩ (fun W hS => (st_move rfl)) rfl ?_
          clear hE a; intro a hE
          refine d_take (v := Value.pointer (some ⟨g11, 2, none⟩)) p25_14_2 ns25_14 (by kernel_rfl) (by kernel_rfl) (fun _ _ _ h => h) hE wn_none rfl ⟨B_g1, B_g11, trivial⟩ (fun W hS => (st_fieldAddr Try.underlying27 rfl tS3 rfl rfl)) rfl ?_
          clear hE a; intro a hE
          refine d_take (v := Value.int .i64 r2) p25_14_3 ns25_14 (by kernel_rfl) (by kernel_rfl) (fun _ _ _ h => h) hE wn_none rfl ⟨B_g1, B_g11, trivial⟩ (fun W hS => (st_load1 tA3 rfl ((blk_cell hS.2.1 2).trans rfl))) rfl ?_
          clear hE a; intro a hE
          refine d_one (by kernel_rfl) rfl (s_call (xs := [Operand.tmp 60]) (args := [Value.pointer (some ⟨u4, 0, none⟩)]) p25_14_1 hE wn_none rfl rfl Try.func76 cl76 (Go.Proofs.Ytndiddfleidnaaa.Pk.Left_any u4 (some ad) l.length c 40 0 _ B_u4 (by omega) (by omega) (by omega)) ?_)
          rintro e w40 ⟨rfl, hn⟩
          have hk := kp_n hn (fun _ => False)
          replace B_g1 := kp_blk B_g1 hk (fun h => h)
          replace B_u4 := kp_blk B_u4 hk (fun h => h)
          replace B_g11 := kp_blk B_g11 hk (fun h => h)
          replace O_q16 := own_keep O_q16 hk (fun _ _ h => h)
          replace O_q22 := own_keep O_q22 hk (fun _ _ h => h)
          replace K_0 := K_0.then_ hk (fun _ h => h.elim)
          refine ⟨_, rfl, ?_⟩
          clear hE a; intro a hE
          refine ⟨⟨B_g1, B_g11, trivial⟩, ?_⟩
          refine d_take (v := Value.bool false) p25_14_4 ns25_14 (by kernel_rfl) (by kernel_rfl) (fun _ _ _ h => h) hE wn_none rfl ⟨B_g1, B_g11, trivial⟩ (fun W hS => (st_gtr (b := false) rfl rfl (decide_eq_false h14))) rfl ?_
          clear hE a; intro a hE
          refine d_take (v := Value.bool false) p25_14_5 ns25_14 (by kernel_rfl) (by kernel_rfl) (fun _ _ _ h => h) hE wn_none rfl ⟨B_g1, B_g11, trivial⟩ (fun W hS => (st_assign rfl)) rfl ?_
          clear hE a; intro a hE
          refine d_end (by kernel_rfl) ?_
          refine x_norm ?_
          refine c_cond (t := false) hE rfl ?_
          refine wp_skip ?_
          refine x_normB ?_
          refine x_norm ?_
          obtain rfl : r2 = ((l.length - 40 : Nat) : Int) := by omega
          refine c_drawS (S := fun W => W.heap[g11]? = some (.cells (([Value.int .i64 ((r4 / 1048576) % 256), Value.int .i64 (r4 % 1048576), Value.int .i64 ((l.length - 40 : Nat) : Int), Value.int .i64 ra, Value.int .i64 rb] ++ b16 s ++ b16 d)).toArray 27 (0, 0)) ∧ True) rfl rfl (listed := #[false, false, false, false, false, false, false, false]) rfl ?_
          intro w41 hh hk
          replace B_g1 := kp_blk B_g1 hk (fun h => h)
          replace B_u4 := kp_blk B_u4 hk (fun h => h)
          replace B_g11 := kp_blk B_g11 hk (fun h => h)
          replace O_q16 := own_keep O_q16 hk (fun _ _ h => h)
          replace O_q22 := own_keep O_q22 hk (fun _ _ h => h)
          replace K_0 := K_0.then_ hk (fun _ h => h.elim)
          clear hh hk
          refine d_take (v := Value.agg (([Value.int .i64 ((r4 / 1048576) % 256), Value.int .i64 (r4 % 1048576), Value.int .i64 ((l.length - 40 : Nat) : Int), Value.int .i64 ra, Value.int .i64 rb] ++ b16 s ++ b16 d)).toArray) p25_16_0 ns25_16 (by kernel_rfl) (by kernel_rfl) (fun _ _ _ h => h) hE wn_none rfl ⟨B_g11, trivial⟩ (fun W hS => (st_loadN (off := 0) (k := 37) (vs := ([Value.int .i64 ((r4 / 1048576) % 256), Value.int .i64 (r4 % 1048576), Value.int .i64 ((l.length - 40 : Nat) : Int), Value.int .i64 ra, Value.int .i64 rb] ++ b16 s ++ b16 d)) tA27 tS27 rfl hS.1 rfl rfl)) rfl ?_
          clear hE a; intro a hE
          refine d_take (v := Value.pointer (some ⟨u4, 0, none⟩)) p25_16_1 ns25_16 (by kernel_rfl) (by kernel_rfl) (fun _ _ _ h => h) hE wn_none rfl ⟨B_g11, trivial⟩ (fun W hS => (st_move rfl)) rfl ?_
          clear hE a; intro a hE
          refine d_take (v := Value.pointer (some ⟨g11, 2, none⟩)) p25_16_2 ns25_16 (by kernel_rfl) (by kernel_rfl) (fun _ _ _ h => h) hE wn_none rfl ⟨B_g11, trivial⟩ (fun W hS => (st_fieldAddr Try.underlying27 rfl tS3 rfl rfl)) rfl ?_
          clear hE a; intro a hE
          refine d_take (v := Value.int .i64 ((l.length - 40 : Nat) : Int)) p25_16_3 ns25_16 (by kernel_rfl) (by kernel_rfl) (fun _ _ _ h => h) hE wn_none rfl ⟨B_g11, trivial⟩ (fun W hS => (st_load1 tA3 rfl ((blk_cell hS.1 2).trans rfl))) rfl ?_
          clear hE a; intro a hE
          have hnb_g1 := blk_lt B_g1
          have hnb_u4 := blk_lt B_u4
          have hnb_g11 := blk_lt B_g11
          have hnz_0 := K_0.kept.1
          have hno_q16 := fun k (h : OB A17 k) => (own_ob O_q16 h).2
          have hno_q22 := fun k (h : OB A23 k) => (own_ob O_q22 h).2
          refine d_one (by kernel_rfl) rfl (s_call (xs := [Operand.tmp 67, Operand.tmp 69]) (args := [Value.pointer (some ⟨u4, 0, none⟩), Value.int .i64 ((l.length - 40 : Nat) : Int)]) p25_16_4 hE wn_none rfl rfl Try.func74 cl74 (Go.Proofs.Ytndiddfleidnaaa.Pk.bytes_ok u4 (some ad) c l 40 (l.length - 40 : Nat) l.length (by omega) _ B_u4 (by intro h; cases h) (fun W hk => F_l _ (K_0.then_ hk (fun k h => by rw [show k = u4 from h]; exact Or.inr z_0_u4))) (by omega) (by omega) (by omega) (by omega)) ?_)
          rintro e w45 ⟨⟨v, rfl, O_q42⟩, B_u4', hk⟩
          obtain ⟨A43, c44, rfl⟩ := own_sl O_q42
          rw [hrest] at O_q42
          replace B_g1 := kp_blk B_g1 hk n_g1_u4
          replace B_g11 := kp_blk B_g11 hk (Ne.symm n_u4_g11)
          replace O_q16 := own_keep O_q16 hk (fun k hk2 h2 => Nb_q16_u4 (by rw [show k = u4 from h2] at hk2; exact hk2))
          replace O_q22 := own_keep O_q22 hk (fun k hk2 h2 => Nb_q22_u4 (by rw [show k = u4 from h2] at hk2; exact hk2))
          replace K_0 := K_0.then_ hk (fun k h => by rw [show k = u4 from h]; exact Or.inr z_0_u4)
          replace B_u4 : w45.heap[u4]? = some (.cells #[Value.slice (some ad) l.length c, .int .i64 (l.length : Int), .int .i64 0] 201 (0, 0)) := B_u4'
          try clear B_u4'
          have Nb_q42_g1 : ¬ OB A43 g1 := fun h => by have := (own_ob O_q42 h).1; have := hnb_g1; omega
          have Nb_q42_u4 : ¬ OB A43 u4 := fun h => by have := (own_ob O_q42 h).1; have := hnb_u4; omega
          have Nb_q42_g11 : ¬ OB A43 g11 := fun h => by have := (own_ob O_q42 h).1; have := hnb_g11; omega
          have Z_0_q42 : ∀ k, OB A43 k → (fun _ => False) k ∨ w.heap.size ≤ k := fun k h => .inr (by have := (own_ob O_q42 h).1; have := hnz_0; omega)
          have NN_q42_q16 : ∀ k, OB A43 k → ¬ OB A17 k := fun k h h2 => by have := (own_ob O_q42 h).1; have := hno_q16 k h2; omega
          have NN_q16_q42 : ∀ k, OB A17 k → ¬ OB A43 k := fun k h h2 => NN_q42_q16 k h2 h
          have NN_q42_q22 : ∀ k, OB A43 k → ¬ OB A23 k := fun k h h2 => by have := (own_ob O_q42 h).1; have := hno_q22 k h2; omega
          have NN_q22_q42 : ∀ k, OB A23 k → ¬ OB A43 k := fun k h h2 => NN_q42_q22 k h2 h
          replace O_q42 := own_lower O_q42 hnz_0
          refine ⟨_, rfl, ?_⟩
          clear hE a; intro a hE
          refine ⟨⟨B_g11, trivial⟩, ?_⟩
          refine d_one (by kernel_rfl) rfl (s_store (off := 0) (k := 37) (cs' := (([Value.int .i64 ((r4 / 1048576) % 256), Value.int .i64 (r4 % 1048576), Value.int .i64 ((l.length - 40 : Nat) : Int), Value.int .i64 ra, Value.int .i64 rb] ++ b16 s ++ b16 d)).toArray) p25_16_5 hE wn_none tS27 rfl rfl rfl rfl B_g1 (Nat.le_of_ble_eq_true rfl) rfl ?_)
          intro w46 B_g1' hk
          replace B_u4 := kp_blk B_u4 hk (Ne.symm n_g1_u4)
          replace B_g11 := kp_blk B_g11 hk (Ne.symm n_g1_g11)
          replace O_q16 := own_keep O_q16 hk (fun k hk2 h2 => Nb_q16_g1 (by rw [show k = g1 from h2] at hk2; exact hk2))
          replace O_q22 := own_keep O_q22 hk (fun k hk2 h2 => Nb_q22_g1 (by rw [show k = g1 from h2] at hk2; exact hk2))
          replace O_q42 := own_keep O_q42 hk (fun k hk2 h2 => Nb_q42_g1 (by rw [show k = g1 from h2] at hk2; exact hk2))
          replace K_0 := K_0.then_ hk (fun k h => by rw [show k = g1 from h]; exact Or.inr z_0_g1)
          replace B_g1 := B_g1'
          clear hk
          refine ⟨⟨B_g11, trivial⟩, ?_⟩
          refine d_take (v := Value.slice A43 (l.length - 40 : Nat) c44) p25_16_6 ns25_16 (by kernel_rfl) (by kernel_rfl) (fun _ _ _ h => h) hE wn_none rfl ⟨B_g11, trivial⟩ (fun W hS => (st_assign rfl)) rfl ?_
          clear hE a; intro a hE
          refine d_take (v := Value.int .i64 0) p25_16_7 ns25_16 (by kernel_rfl) (by kernel_rfl) (fun _ _ _ h => h) hE wn_none rfl ⟨B_g11, trivial⟩ (fun W hS => (st_assign rfl)) rfl ?_
          clear hE a; intro a hE
          refine d_end (by kernel_rfl) ?_
          refine x_norm ?_
          refine wp_ret ?_
          refine ret_list (rs := [.cell 2 27, .tmp 3, .tmp 4]) (vs := [Value.agg (([Value.int .i64 ((r4 / 1048576) % 256), Value.int .i64 (r4 % 1048576), Value.int .i64 ((l.length - 40 : Nat) : Int), Value.int .i64 ra, Value.int .i64 rb] ++ b16 s ++ b16 d)).toArray, Value.slice A43 (l.length - 40 : Nat) c44, Value.int .i64 0]) rfl hE (.cellN (us := ([Value.int .i64 ((r4 / 1048576) % 256), Value.int .i64 (r4 % 1048576), Value.int .i64 ((l.length - 40 : Nat) : Int), Value.int .i64 ra, Value.int .i64 rb] ++ b16 s ++ b16 d)) tA27 tS27 rfl B_g1 rfl (.tmp rfl (.tmp rfl .nil))) rfl ?_
          exact hok (by omega) (by omega) (by omega) _ _ _ O_q42 K_0
  ·
    refine p_cons (s_still (v := Value.bool true) p25_8_3 hE wn_none rfl (st_neq rfl rfl (by simp [hc28])) ?_)
    clear hE a; intro a hE
    refine p_cons (s_still p25_8_4 hE wn_none rfl (st_assign rfl) ?_)
    clear hE a; intro a hE
    refine p_nil ?_
    refine x_norm ?_
    refine c_cond (t := true) hE rfl ?_
    refine c_reg R25_9_l ?_
    refine p_cons (s_still p25_9_0 hE wn_none rfl (st_build (xs := []) (vs := []) (cs := (([Value.int .i64 0, Value.int .i64 0, Value.int .i64 0, Value.int .i64 0, Value.int .i64 0] ++ b16 (fun _ => 0) ++ b16 (fun _ => 0))).toArray) rfl (by kernel_rfl)) ?_)
    clear hE a; intro a hE
    refine p_cons (s_store (off := 0) (k := 37) (cs' := (([Value.int .i64 0, Value.int .i64 0, Value.int .i64 0, Value.int .i64 0, Value.int .i64 0] ++ b16 (fun _ => 0) ++ b16 (fun _ => 0))).toArray) p25_9_1 hE wn_none tS27 rfl rfl rfl rfl B_g1 (Nat.le_of_ble_eq_true rfl) rfl ?_)
    intro w47 B_g1' hk
    replace B_u4 := kp_blk B_u4 hk (Ne.symm n_g1_u4)
    replace B_g11 := kp_blk B_g11 hk (Ne.symm n_g1_g11)
    replace O_q16 := own_keep O_q16 hk (fun k hk2 h2 => Nb_q16_g1 (by rw [show k = g1 from h2] at hk2; exact hk2))
    replace O_q22 := own_keep O_q22 hk (fun k hk2 h2 => Nb_q22_g1 (by rw [show k = g1 from h2] at hk2; exact hk2))
    replace K_0 := K_0.then_ hk (fun k h => by rw [show k = g1 from h]; exact Or.inr z_0_g1)
    replace B_g1 := B_g1'
    clear hk
    refine p_cons (s_still p25_9_2 hE wn_none rfl (st_assign rfl) ?_)
    clear hE a; intro a hE
    refine p_cons (s_still p25_9_3 hE wn_none rfl (st_assign rfl) ?_)
    clear hE a; intro a hE
    refine p_nil ?_
    refine x_norm ?_
    refine wp_ret ?_
    refine x_retB ?_
    refine x_ret ?_
    refine ret_list (rs := [.cell 2 27, .tmp 3, .tmp 4]) (vs := [Value.agg (([Value.int .i64 0, Value.int .i64 0, Value.int .i64 0, Value.int .i64 0, Value.int .i64 0] ++ b16 (fun _ => 0) ++ b16 (fun _ => 0))).toArray, Value.slice none 0 0, Value.int .i64 3]) rfl hE (.cellN (us := ([Value.int .i64 0, Value.int .i64 0, Value.int .i64 0, Value.int .i64 0, Value.int .i64 0] ++ b16 (fun _ => 0) ++ b16 (fun _ => 0))) tA27 tS27 rfl B_g1 rfl (.tmp rfl (.tmp rfl .nil))) rfl ?_
    first | exact hver (by omega) _ K_0 | exact hmany (by omega) (by omega) (by omega) _ K_0
theorem dec_ver (ad : Addr) (c : Nat) (l : List Int) (r4 ra rb r2 : Int) (s : Nat → Int) (d : Nat → Int) (h4 : joinF ((l.drop 0).take 4) = r4) (h4b : 0 ≤ r4 ∧ r4 < 4294967296) (h2 : joinF ((l.drop 4).take 2) = r2) (ha : joinF ((l.drop 6).take 1) = ra) (hb : joinF ((l.drop 7).take 1) = rb) (hs : (l.drop 8).take 16 = l16 s) (hd : (l.drop 24).take 16 = l16 d) (hby : ∀ x ∈ l, 0 ≤ x ∧ x ≤ 255) (hlc : l.length ≤ c) (hcm : c ≤ 9223372036854775807) (hlm : l.length ≤ 140737488355328) (hlo : 40 ≤ l.length) (w : World) (hC : Kd.C (Kd.int .u8) w (some ad) l.length l) (g0' : ¬ r4 / 1048576 / 256 = 6) : Calls Try.prog 25 #[Value.slice (some ad) l.length c] w (fun e w' => e = .returned (.tuple #[Value.agg (([Value.int .i64 0, Value.int .i64 0, Value.int .i64 0, Value.int .i64 0, Value.int .i64 0] ++ b16 (fun _ => 0) ++ b16 (fun _ => 0))).toArray, .slice none 0 0, .int .i64 3]) ∧ Kp w w' (fun _ => False)) :=
  dec_rest ad c l r4 ra rb r2 s d h4 h4b h2 ha hb hs hd hby hlc hcm hlm hlo w hC (fun _ w' hk => ⟨rfl, hk⟩) (fun g0 g1 => absurd g0' (by omega)) (fun g0 g1 g2 => absurd g0' (by omega)) (fun g0 g1 g2 => absurd g0' (by omega)) (fun g0 g1 g2 => absurd g0' (by omega))
theorem dec_long (ad : Addr) (c : Nat) (l : List Int) (r4 ra rb r2 : Int) (s : Nat → Int) (d : Nat → Int) (h4 : joinF ((l.drop 0).take 4) = r4) (h4b : 0 ≤ r4 ∧ r4 < 4294967296) (h2 : joinF ((l.drop 4).take 2) = r2) (ha : joinF ((l.drop 6).take 1) = ra) (hb : joinF ((l.drop 7).take 1) = rb) (hs : (l.drop 8).take 16 = l16 s) (hd : (l.drop 24).take 16 = l16 d) (hby : ∀ x ∈ l, 0 ≤ x ∧ x ≤ 255) (hlc : l.length ≤ c) (hcm : c ≤ 9223372036854775807) (hlm : l.length ≤ 140737488355328) (hlo : 40 ≤ l.length) (w : World) (hC : Kd.C (Kd.int .u8) w (some ad) l.length l) (g0' : r4 / 1048576 / 256 = 6) (g1' : 1280 < l.length) : Calls Try.prog 25 #[Value.slice (some ad) l.length c] w (fun e w' => e = .returned (.tuple #[Value.agg (([Value.int .i64 0, Value.int .i64 0, Value.int .i64 0, Value.int .i64 0, Value.int .i64 0] ++ b16 (fun _ => 0) ++ b16 (fun _ => 0))).toArray, .slice none 0 0, .int .i64 2]) ∧ Kp w w' (fun _ => False)) :=
  dec_rest ad c l r4 ra rb r2 s d h4 h4b h2 ha hb hs hd hby hlc hcm hlm hlo w hC (fun g0 => absurd g1' (by omega)) (fun _ _ w' hk => ⟨rfl, hk⟩) (fun g0 g1 g2 => absurd g1' (by omega)) (fun g0 g1 g2 => absurd g1' (by omega)) (fun g0 g1 g2 => absurd g1' (by omega))
theorem dec_few (ad : Addr) (c : Nat) (l : List Int) (r4 ra rb r2 : Int) (s : Nat → Int) (d : Nat → Int) (h4 : joinF ((l.drop 0).take 4) = r4) (h4b : 0 ≤ r4 ∧ r4 < 4294967296) (h2 : joinF ((l.drop 4).take 2) = r2) (ha : joinF ((l.drop 6).take 1) = ra) (hb : joinF ((l.drop 7).take 1) = rb) (hs : (l.drop 8).take 16 = l16 s) (hd : (l.drop 24).take 16 = l16 d) (hby : ∀ x ∈ l, 0 ≤ x ∧ x ≤ 255) (hlc : l.length ≤ c) (hcm : c ≤ 9223372036854775807) (hlm : l.length ≤ 140737488355328) (hlo : 40 ≤ l.length) (w : World) (hC : Kd.C (Kd.int .u8) w (some ad) l.length l) (g0' : r4 / 1048576 / 256 = 6) (g1' : ¬ 1280 < l.length) (g2' : (l.length : Int) - 40 < r2) : Calls Try.prog 25 #[Value.slice (some ad) l.length c] w (fun e w' => e = .returned (.tuple #[Value.agg (([Value.int .i64 0, Value.int .i64 0, Value.int .i64 0, Value.int .i64 0, Value.int .i64 0] ++ b16 (fun _ => 0) ++ b16 (fun _ => 0))).toArray, .slice none 0 0, .int .i64 4]) ∧ Kp w w' (fun _ => False)) :=
  dec_rest ad c l r4 ra rb r2 s d h4 h4b h2 ha hb hs hd hby hlc hcm hlm hlo w hC (fun g0 => absurd g2' (by omega)) (fun g0 g1 => absurd g2' (by omega)) (fun _ _ _ w' hk => ⟨rfl, hk⟩) (fun g0 g1 g2 => absurd g2' (by omega)) (fun g0 g1 g2 => absurd g2' (by omega))
theorem dec_many (ad : Addr) (c : Nat) (l : List Int) (r4 ra rb r2 : Int) (s : Nat → Int) (d : Nat → Int) (h4 : joinF ((l.drop 0).take 4) = r4) (h4b : 0 ≤ r4 ∧ r4 < 4294967296) (h2 : joinF ((l.drop 4).take 2) = r2) (ha : joinF ((l.drop 6).take 1) = ra) (hb : joinF ((l.drop 7).take 1) = rb) (hs : (l.drop 8).take 16 = l16 s) (hd : (l.drop 24).take 16 = l16 d) (hby : ∀ x ∈ l, 0 ≤ x ∧ x ≤ 255) (hlc : l.length ≤ c) (hcm : c ≤ 9223372036854775807) (hlm : l.length ≤ 140737488355328) (hlo : 40 ≤ l.length) (w : World) (hC : Kd.C (Kd.int .u8) w (some ad) l.length l) (g0' : r4 / 1048576 / 256 = 6) (g1' : ¬ 1280 < l.length) (g2' : r2 < (l.length : Int) - 40) : Calls Try.prog 25 #[Value.slice (some ad) l.length c] w (fun e w' => e = .returned (.tuple #[Value.agg (([Value.int .i64 0, Value.int .i64 0, Value.int .i64 0, Value.int .i64 0, Value.int .i64 0] ++ b16 (fun _ => 0) ++ b16 (fun _ => 0))).toArray, .slice none 0 0, .int .i64 3]) ∧ Kp w w' (fun _ => False)) :=
  dec_rest ad c l r4 ra rb r2 s d h4 h4b h2 ha hb hs hd hby hlc hcm hlm hlo w hC (fun g0 => absurd g2' (by omega)) (fun g0 g1 => absurd g2' (by omega)) (fun g0 g1 g2 => absurd g2' (by omega)) (fun _ _ _ w' hk => ⟨rfl, hk⟩) (fun g0 g1 g2 => absurd g2' (by omega))
theorem dec_ok (ad : Addr) (c : Nat) (l : List Int) (r4 ra rb r2 : Int) (s : Nat → Int) (d : Nat → Int) (h4 : joinF ((l.drop 0).take 4) = r4) (h4b : 0 ≤ r4 ∧ r4 < 4294967296) (h2 : joinF ((l.drop 4).take 2) = r2) (ha : joinF ((l.drop 6).take 1) = ra) (hb : joinF ((l.drop 7).take 1) = rb) (hs : (l.drop 8).take 16 = l16 s) (hd : (l.drop 24).take 16 = l16 d) (hby : ∀ x ∈ l, 0 ≤ x ∧ x ≤ 255) (hlc : l.length ≤ c) (hcm : c ≤ 9223372036854775807) (hlm : l.length ≤ 140737488355328) (hlo : 40 ≤ l.length) (w : World) (hC : Kd.C (Kd.int .u8) w (some ad) l.length l) (g0' : r4 / 1048576 / 256 = 6) (g1' : ¬ 1280 < l.length) (g2' : r2 = (l.length : Int) - 40) : Calls Try.prog 25 #[Value.slice (some ad) l.length c] w fun e w' => ∃ A' c', e = .returned (.tuple #[Value.agg (([Value.int .i64 (r4 / 1048576 % 256), Value.int .i64 (r4 % 1048576), Value.int .i64 r2, Value.int .i64 ra, Value.int .i64 rb] ++ b16 s ++ b16 d)).toArray, .slice A' (l.length - 40) c', .int .i64 0]) ∧ w'.ownsRow w.heap.size 5 1 (.slice A' (l.length - 40) c') (l.length - 40) (encs (Value.int .u8) (l.drop 40)) ∧ Kp w w' (fun _ => False) :=
  dec_rest ad c l r4 ra rb r2 s d h4 h4b h2 ha hb hs hd hby hlc hcm hlm hlo w hC (fun g0 => absurd g0 (by omega)) (fun g0 g1 => absurd g1 (by omega)) (fun g0 g1 g2 => absurd g2 (by omega)) (fun g0 g1 g2 => absurd g2 (by omega)) (fun _ _ _ A' c' w' x1 hk => ⟨A', c', rfl, x1, hk⟩)
end Go.Proofs.Ytndiddfleidnaaa.Hdec2
