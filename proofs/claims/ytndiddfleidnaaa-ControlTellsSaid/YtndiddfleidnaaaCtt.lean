/- The law ControlTells, walked. -/
import Derived.Test.YtndiddfleidnaaaCtg
set_option maxRecDepth 100000
set_option linter.unusedVariables false
set_option linter.unusedSimpArgs false
namespace Go.Proofs.Ytndiddfleidnaaa.CT
open Go.RowKit Go.Proofs.YtndiddfleidnaaaW.PrintWords Go.Proofs.Ytndiddfleidnaaa.Ds Go.Proofs.Ytndiddfleidnaaa.Op Go.Proofs.Ytndiddfleidnaaa.Or Go.Proofs.Ytndiddfleidnaaa.Os Go.Proofs.Ytndiddfleidnaaa.Of Go.Proofs.Ytndiddfleidnaaa.Ct Go.Proofs.Ytndiddfleidnaaa.Ck Go.Proofs.Ytndiddfleidnaaa.Cg
open Go.Proofs.Ytndiddfleidnaaa.Pk (Kp fitsF spanF putF digF fits_any put_ok put_bd C_take)
theorem ofl_tgt (z : List OV) : (tgt z).map ofV = tgt z := by
  unfold tgt
  rw [List.map_map]
  rfl
theorem toL_len (ls : List OV) : (toL ls).length ≤ 20 := by unfold toL; rw [List.length_map, List.length_take]; omega
theorem tgt_app (xs ys : List OV) : tgt (xs ++ ys) = tgt xs ++ tgt ys := by unfold tgt; rw [List.filter_append, List.map_append]
theorem tgt_at {xs : List OV} {i : Nat} (hi : i < xs.length) (h5 : isT (xs.getD i zO) = true) : (tgt (xs.take i)).length < (tgt xs).length ∧ (tgt xs).getD (tgt (xs.take i)).length zO = cpV (xs.getD i zO) := by
  have e : tgt xs = tgt (xs.take i) ++ [cpV (xs.getD i zO)] ++ tgt (xs.drop (i + 1)) := by
    have h1 := tgt_app (xs.take (i + 1)) (xs.drop (i + 1))
    rw [List.take_append_drop, tgt_succ hi, if_pos h5] at h1
    exact h1
  rw [e]
  constructor
  · simp
  · rw [List.getD_eq_getElem?_getD]; simp
theorem of_g (A : Option Addr) (c : Nat) (ls : List OV) (he : ls.map ofV = ls) (w : World) (hF : Kd.C dO w A ls.length ls) (hm : ls.length ≤ c) (hmx : ls.length ≤ 1954687338211) : Calls Try.prog 39 #[.slice A ls.length c] w fun e w' => ∃ A' c', e = .returned (.slice A' ls.length c') ∧ ls.length ≤ c' ∧ (∀ W', Kp w' W' (fun _ => False) → Kd.C dO W' A' ls.length ls) ∧ Kp w w' (fun _ => False) := by
  have := ofl_any A c ls w hF hm hmx
  rw [he] at this
  exact this
theorem of_1 (A : Option Addr) (c : Nat) (x : OV) (w : World) (hF : Kd.C dO w A 1 [x]) (hm : 1 ≤ c) : Calls Try.prog 39 #[.slice A 1 c] w fun e w' => ∃ A' c', e = .returned (.slice A' 1 c') ∧ 1 ≤ c' ∧ (∀ W', Kp w' W' (fun _ => False) → Kd.C dO W' A' 1 [ofV x]) ∧ Kp w w' (fun _ => False) := ofl_any A c [x] w hF hm (Nat.le_of_ble_eq_true rfl)
theorem same_cp (x : OV) : osame (cpV x) (ofV x) = true := osame_cp x
theorem words_at (k : Nat) (hk : k ≤ 3) : (#[Value.string { data := #[100, 105, 115] }, Value.string { data := #[100, 105, 111] }, Value.string { data := #[100, 97, 111] }, Value.string { data := #[97, 99, 107] }] : Array Value)[0 + k]? = some (Value.string (cword k)) := by
  match k, hk with
  | 0, _ => rfl
  | 1, _ => rfl
  | 2, _ => rfl
  | 3, _ => rfl
theorem R11_5_l : List.range (regOf Try.f11 5).size = [0, 1, 2, 3] := by kernel_rfl
theorem R11_6_l : List.range (regOf Try.f11 6).size = [0, 1, 2, 3] := by kernel_rfl
theorem R11_7_l : List.range (regOf Try.f11 7).size = [0] := by kernel_rfl
theorem R11_8_l : List.range (regOf Try.f11 8).size = [0] := by kernel_rfl
theorem R11_9_l : List.range (regOf Try.f11 9).size = [0, 1, 2, 3, 4] := by kernel_rfl
theorem R11_11_l : List.range (regOf Try.f11 11).size = [0, 1, 2, 3, 4, 5, 6] := by kernel_rfl
theorem R11_12_l : List.range (regOf Try.f11 12).size = [0, 1, 2, 3, 4, 5, 6, 7, 8, 9, 10, 11, 12, 13, 14, 15, 16, 17, 18, 19, 20] := by kernel_rfl
theorem R11_13_l : List.range (regOf Try.f11 13).size = [0] := by kernel_rfl
theorem R11_14_l : List.range (regOf Try.f11 14).size = [0, 1, 2] := by kernel_rfl
theorem R11_10_l : List.range (regOf Try.f11 10).size = [0, 1, 2] := by kernel_rfl
theorem R11_15_l : List.range (regOf Try.f11 15).size = [0, 1, 2, 3, 4, 5, 6, 7, 8, 9, 10, 11, 12, 13, 14, 15, 16, 17, 18, 19, 20, 21, 22] := by kernel_rfl
theorem p11_5_0 : pj (regOf Try.f11 5) 0 = some (some 23, .load 86 (.tmp 3), 86, none) := by kernel_rfl
theorem tA86 : (Try.prog.underlying 86).map aggD = some true := by kernel_rfl
theorem tS86 : (Try.prog.info? 86).map (·.size) = some 28 := by kernel_rfl
theorem p11_5_1 : pj (regOf Try.f11 5) 1 = some (some 24, .call { callee := .value (.func 49), args := #[.tmp 23], argTypes := #[86] }, 89, none) := by kernel_rfl
theorem cl49 : callable Try.f49 = true := by kernel_rfl
theorem p11_5_2 : pj (regOf Try.f11 5) 2 = some (some 9, .alloc 89, 0, none) := by kernel_rfl
theorem tZ89 : (Try.prog.info? 89).bind (·.zero) = some (Value.agg (([Value.int .i64 0, Value.int .i64 0, Value.int .i64 0, Value.int .i64 0, Value.int .i64 0, Value.int .i64 0, Value.int .i64 0, Value.int .i64 0, Value.int .i64 0, Value.bool false, Value.bool false] ++ b16 (fun _ => 0) ++ [Value.slice none 0 0])).toArray) := by kernel_rfl
theorem p11_5_3 : pj (regOf Try.f11 5) 3 = some (none, .store 89 (.tmp 9) (.tmp 24), 0, none) := by kernel_rfl
theorem tS89 : (Try.prog.info? 89).map (·.size) = some 28 := by kernel_rfl
theorem p11_6_0 : pj (regOf Try.f11 6) 0 = some (some 25, .load 89 (.tmp 9), 89, none) := by kernel_rfl
theorem tA89 : (Try.prog.underlying 89).map aggD = some true := by kernel_rfl
theorem p11_6_1 : pj (regOf Try.f11 6) 1 = some (some 26, .call { callee := .value (.func 50), args := #[.tmp 25], argTypes := #[89] }, 58, none) := by kernel_rfl
theorem cl50 : callable Try.f50 = true := by kernel_rfl
theorem p11_6_2 : pj (regOf Try.f11 6) 2 = some (some 27, .call { callee := .value (.func 39), args := #[.tmp 26], argTypes := #[58] }, 57, none) := by kernel_rfl
theorem cl39 : callable Try.f39 = true := by kernel_rfl
theorem p11_6_3 : pj (regOf Try.f11 6) 3 = some (some 10, .assign (.tmp 27), 57, none) := by kernel_rfl
theorem p11_7_0 : pj (regOf Try.f11 7) 0 = some (some 11, .assign (.const (.int .i64 0)), 3, none) := by kernel_rfl
theorem p11_8_0 : pj (regOf Try.f11 8) 0 = some (some 12, .assign (.const (.int .i64 0)), 3, none) := by kernel_rfl
theorem p11_9_0 : pj (regOf Try.f11 9) 0 = some (some 28, .move (.tmp 12), 3, none) := by kernel_rfl
theorem p11_9_1 : pj (regOf Try.f11 9) 1 = some (some 29, .fieldAddr 89 (.tmp 9) 12, 0, none) := by kernel_rfl
theorem tS58 : (Try.prog.info? 58).map (·.size) = some 1 := by kernel_rfl
theorem p11_9_2 : pj (regOf Try.f11 9) 2 = some (some 30, .load 58 (.tmp 29), 58, none) := by kernel_rfl
theorem tA58 : (Try.prog.underlying 58).map aggD = some false := by kernel_rfl
theorem p11_9_3 : pj (regOf Try.f11 9) 3 = some (some 31, .call { callee := .builtin .len, args := #[.tmp 30], argTypes := #[58] }, 3, none) := by kernel_rfl
theorem p11_9_4 : pj (regOf Try.f11 9) 4 = some (some 32, .binOp .lss 3 (.tmp 28) (.tmp 31) 3, 4, none) := by kernel_rfl
theorem p11_11_0 : pj (regOf Try.f11 11) 0 = some (some 35, .fieldAddr 89 (.tmp 9) 12, 0, none) := by kernel_rfl
theorem p11_11_1 : pj (regOf Try.f11 11) 1 = some (some 36, .load 58 (.tmp 35), 58, none) := by kernel_rfl
theorem p11_11_2 : pj (regOf Try.f11 11) 2 = some (some 37, .move (.tmp 12), 3, none) := by kernel_rfl
theorem p11_11_3 : pj (regOf Try.f11 11) 3 = some (some 38, .indexAddr 58 (.tmp 36) (.tmp 37), 0, none) := by kernel_rfl
theorem tS64 : (Try.prog.info? 64).map (·.size) = some 19 := by kernel_rfl
theorem p11_11_4 : pj (regOf Try.f11 11) 4 = some (some 39, .fieldAddr 64 (.tmp 38) 0, 0, none) := by kernel_rfl
theorem tS3 : (Try.prog.info? 3).map (·.size) = some 1 := by kernel_rfl
theorem p11_11_5 : pj (regOf Try.f11 11) 5 = some (some 40, .load 3 (.tmp 39), 3, none) := by kernel_rfl
theorem tA3 : (Try.prog.underlying 3).map aggD = some false := by kernel_rfl
theorem p11_11_6 : pj (regOf Try.f11 11) 6 = some (some 41, .binOp .neq 3 (.tmp 40) (.const (.int .i64 5)) 3, 4, none) := by kernel_rfl
theorem ns11_12 : Region.noSelect (regOf Try.f11 12) = true := by kernel_rfl
theorem p11_12_0 : pj (regOf Try.f11 12) 0 = some (some 42, .move (.tmp 11), 3, none) := by kernel_rfl
theorem p11_12_1 : pj (regOf Try.f11 12) 1 = some (some 43, .move (.tmp 10), 57, none) := by kernel_rfl
theorem p11_12_2 : pj (regOf Try.f11 12) 2 = some (some 44, .call { callee := .builtin .len, args := #[.tmp 43], argTypes := #[57] }, 3, none) := by kernel_rfl
theorem p11_12_3 : pj (regOf Try.f11 12) 3 = some (some 45, .binOp .geq 3 (.tmp 42) (.tmp 44) 3, 4, none) := by kernel_rfl
theorem p11_12_4 : pj (regOf Try.f11 12) 4 = some (some 46, .move (.tmp 45), 4, none) := by kernel_rfl
theorem g11_12_4 : dstOf (regOf Try.f11 12) 4 = some 46 := by kernel_rfl
theorem p11_12_5 : pj (regOf Try.f11 12) 5 = some (some 47, .move (.tmp 10), 57, some (4, false)) := by kernel_rfl
theorem p11_12_6 : pj (regOf Try.f11 12) 6 = some (some 48, .move (.tmp 11), 3, some (4, false)) := by kernel_rfl
theorem p11_12_7 : pj (regOf Try.f11 12) 7 = some (some 49, .indexAddr 57 (.tmp 47) (.tmp 48), 0, some (4, false)) := by kernel_rfl
theorem tS80 : (Try.prog.info? 80).map (·.size) = some 19 := by kernel_rfl
theorem p11_12_8 : pj (regOf Try.f11 12) 8 = some (some 50, .load 80 (.tmp 49), 80, some (4, false)) := by kernel_rfl
theorem tA80 : (Try.prog.underlying 80).map aggD = some true := by kernel_rfl
theorem p11_12_9 : pj (regOf Try.f11 12) 9 = some (some 51, .fieldAddr 89 (.tmp 9) 12, 0, some (4, false)) := by kernel_rfl
theorem p11_12_10 : pj (regOf Try.f11 12) 10 = some (some 52, .load 58 (.tmp 51), 58, some (4, false)) := by kernel_rfl
theorem p11_12_11 : pj (regOf Try.f11 12) 11 = some (some 53, .move (.tmp 12), 3, some (4, false)) := by kernel_rfl
theorem p11_12_12 : pj (regOf Try.f11 12) 12 = some (some 54, .move (.tmp 12), 3, some (4, false)) := by kernel_rfl
theorem p11_12_13 : pj (regOf Try.f11 12) 13 = some (some 55, .binOp .add 3 (.tmp 54) (.const (.int .i64 1)) 3, 3, some (4, false)) := by kernel_rfl
theorem p11_12_14 : pj (regOf Try.f11 12) 14 = some (some 56, .slice 58 (.tmp 52) (some (.tmp 53)) (some (.tmp 55)) none, 58, some (4, false)) := by kernel_rfl
theorem p11_12_15 : pj (regOf Try.f11 12) 15 = some (some 57, .call { callee := .value (.func 39), args := #[.tmp 56], argTypes := #[58] }, 57, some (4, false)) := by kernel_rfl
theorem p11_12_16 : pj (regOf Try.f11 12) 16 = some (some 58, .indexAddr 57 (.tmp 57) (.const (.int .i64 0)), 0, some (4, false)) := by kernel_rfl
theorem p11_12_17 : pj (regOf Try.f11 12) 17 = some (some 59, .load 80 (.tmp 58), 80, some (4, false)) := by kernel_rfl
theorem p11_12_18 : pj (regOf Try.f11 12) 18 = some (some 60, .call { callee := .value (.func 51), args := #[.tmp 50, .tmp 59], argTypes := #[80, 80] }, 4, some (4, false)) := by kernel_rfl
theorem cl51 : callable Try.f51 = true := by kernel_rfl
theorem p11_12_19 : pj (regOf Try.f11 12) 19 = some (some 61, .unOp .not 4 (.tmp 60), 4, some (4, false)) := by kernel_rfl
theorem p11_12_20 : pj (regOf Try.f11 12) 20 = some (some 62, .pick (.tmp 46) (.const (.bool true)) (.tmp 61), 4, none) := by kernel_rfl
theorem p11_14_0 : pj (regOf Try.f11 14) 0 = some (some 63, .move (.tmp 11), 3, none) := by kernel_rfl
theorem p11_14_1 : pj (regOf Try.f11 14) 1 = some (some 64, .binOp .add 3 (.tmp 63) (.const (.int .i64 1)) 3, 3, none) := by kernel_rfl
theorem p11_14_2 : pj (regOf Try.f11 14) 2 = some (some 11, .assign (.tmp 64), 3, none) := by kernel_rfl
theorem p11_10_0 : pj (regOf Try.f11 10) 0 = some (some 33, .move (.tmp 12), 3, none) := by kernel_rfl
theorem p11_10_1 : pj (regOf Try.f11 10) 1 = some (some 34, .binOp .add 3 (.tmp 33) (.const (.int .i64 1)) 3, 3, none) := by kernel_rfl
theorem p11_10_2 : pj (regOf Try.f11 10) 2 = some (some 12, .assign (.tmp 34), 3, none) := by kernel_rfl
theorem p11_15_0 : pj (regOf Try.f11 15) 0 = some (some 65, .call { callee := .value (.func 52), args := #[], argTypes := #[] }, 4, none) := by kernel_rfl
theorem cl52 : callable Try.f52 = true := by kernel_rfl
theorem p11_15_1 : pj (regOf Try.f11 15) 1 = some (some 66, .move (.tmp 65), 4, none) := by kernel_rfl
theorem p11_15_2 : pj (regOf Try.f11 15) 2 = some (some 67, .move (.tmp 11), 3, some (1, true)) := by kernel_rfl
theorem g11_15_1 : dstOf (regOf Try.f11 15) 1 = some 66 := by kernel_rfl
theorem p11_15_3 : pj (regOf Try.f11 15) 3 = some (some 68, .move (.tmp 10), 57, some (1, true)) := by kernel_rfl
theorem p11_15_4 : pj (regOf Try.f11 15) 4 = some (some 69, .call { callee := .builtin .len, args := #[.tmp 68], argTypes := #[57] }, 3, some (1, true)) := by kernel_rfl
theorem p11_15_5 : pj (regOf Try.f11 15) 5 = some (some 70, .binOp .eql 3 (.tmp 67) (.tmp 69) 3, 4, some (1, true)) := by kernel_rfl
theorem p11_15_6 : pj (regOf Try.f11 15) 6 = some (some 71, .pick (.tmp 66) (.tmp 70) (.const (.bool false)), 4, none) := by kernel_rfl
theorem p11_15_7 : pj (regOf Try.f11 15) 7 = some (some 72, .move (.tmp 71), 4, none) := by kernel_rfl
theorem p11_15_8 : pj (regOf Try.f11 15) 8 = some (some 73, .move (.tmp 1), 3, some (7, true)) := by kernel_rfl
theorem g11_15_7 : dstOf (regOf Try.f11 15) 7 = some 72 := by kernel_rfl
theorem p11_15_9 : pj (regOf Try.f11 15) 9 = some (some 74, .call { callee := .value (.func 53), args := #[.tmp 73], argTypes := #[3] }, 9, some (7, true)) := by kernel_rfl
theorem cl53 : callable Try.f53 = true := by kernel_rfl
theorem p11_15_10 : pj (regOf Try.f11 15) 10 = some (some 75, .move (.tmp 8), 9, some (7, true)) := by kernel_rfl
theorem p11_15_11 : pj (regOf Try.f11 15) 11 = some (some 76, .binOp .eql 9 (.tmp 74) (.tmp 75) 9, 4, some (7, true)) := by kernel_rfl
theorem p11_15_12 : pj (regOf Try.f11 15) 12 = some (some 77, .pick (.tmp 72) (.tmp 76) (.const (.bool false)), 4, none) := by kernel_rfl
theorem p11_15_13 : pj (regOf Try.f11 15) 13 = some (some 78, .move (.tmp 77), 4, none) := by kernel_rfl
theorem p11_15_14 : pj (regOf Try.f11 15) 14 = some (some 79, .move (.tmp 1), 3, some (13, true)) := by kernel_rfl
theorem g11_15_13 : dstOf (regOf Try.f11 15) 13 = some 78 := by kernel_rfl
theorem p11_15_15 : pj (regOf Try.f11 15) 15 = some (some 80, .move (.tmp 2), 3, some (13, true)) := by kernel_rfl
theorem p11_15_16 : pj (regOf Try.f11 15) 16 = some (some 81, .call { callee := .value (.func 54), args := #[.tmp 79, .tmp 80], argTypes := #[3, 3] }, 4, some (13, true)) := by kernel_rfl
theorem cl54 : callable Try.f54 = true := by kernel_rfl
theorem p11_15_17 : pj (regOf Try.f11 15) 17 = some (some 82, .move (.tmp 1), 3, some (13, true)) := by kernel_rfl
theorem p11_15_18 : pj (regOf Try.f11 15) 18 = some (some 83, .move (.tmp 2), 3, some (13, true)) := by kernel_rfl
theorem p11_15_19 : pj (regOf Try.f11 15) 19 = some (some 84, .call { callee := .value (.func 55), args := #[.tmp 82, .tmp 83], argTypes := #[3, 3] }, 4, some (13, true)) := by kernel_rfl
theorem cl55 : callable Try.f55 = true := by kernel_rfl
theorem p11_15_20 : pj (regOf Try.f11 15) 20 = some (some 85, .binOp .eql 4 (.tmp 81) (.tmp 84) 4, 4, some (13, true)) := by kernel_rfl
theorem p11_15_21 : pj (regOf Try.f11 15) 21 = some (some 86, .pick (.tmp 78) (.tmp 85) (.const (.bool false)), 4, none) := by kernel_rfl
theorem p11_15_22 : pj (regOf Try.f11 15) 22 = some (some 6, .assign (.tmp 86), 4, none) := by kernel_rfl
set_option maxHeartbeats 4000000 in
theorem rest {R : Ending → World → Prop} (m0 m1 m2 m3 m4 m5 m6 m7 m8 : Int) (gr ask : Bool) (rt : Nat → Int) (A : Option Addr) (c : Nat) (os : List OV) (code kind : Int) (w W : World) (gM : Nat) (B_gM : W.heap[gM]? = some (.cells (([Value.int .i64 m0, Value.int .i64 m1, Value.int .i64 m2, Value.int .i64 m3, Value.int .i64 m4, Value.int .i64 m5, Value.int .i64 m6, Value.int .i64 m7, Value.int .i64 m8, Value.bool gr, Value.bool ask] ++ b16 rt ++ [Value.slice A os.length c])).toArray 86 (0, 0))) (z_0_gM : w.heap.size ≤ gM) (K_0 : Kp w W (fun _ => False)) (hF : Kd.C dO w A os.length os) (hm : os.length ≤ c) (hmx : os.length ≤ maxLen) (hX : ∀ x ∈ toL os, okO x) (hR_ : ∀ w', Kp w w' (fun _ => False) → R (.returned (.bool true)) w') (a : Act) (hE : En 87 a [(1, Value.int .i64 code), (2, Value.int .i64 kind), (3, Value.pointer (some ⟨gM, 0, none⟩)), (6, Value.bool false), (8, Value.string (cwordO code))]) : Code.wp Try.prog (.seq (.region 5 (regOf Try.f11 5) false) (.seq (.region 6 (regOf Try.f11 6) false) (.seq (.region 7 (regOf Try.f11 7) false) (.seq (.seq (.region 8 (regOf Try.f11 8) false) (.block 0 (.loop (.seq (.seq (.region 9 (regOf Try.f11 9) false) (.cond (Operand.tmp 32) (.skip) (.exit 0))) (.seq (.block 1 (.seq (.seq (.region 11 (regOf Try.f11 11) false) (.cond (Operand.tmp 41) (.exit 1) (.skip))) (.seq (.seq (.region 12 (regOf Try.f11 12) true) (.cond (Operand.tmp 62) (.seq (.region 13 (regOf Try.f11 13) false) (.ret)) (.skip))) (.region 14 (regOf Try.f11 14) false)))) (.region 10 (regOf Try.f11 10) false)))))) (.seq (.region 15 (regOf Try.f11 15) false) (.ret)))))) (bodyPost Try.prog Try.f11 R) a W := by
  refine c_reg R11_5_l ?_
  refine q0 p11_5_0 hE (st_loadN (off := 0) (k := 28) (vs := ([Value.int .i64 m0, Value.int .i64 m1, Value.int .i64 m2, Value.int .i64 m3, Value.int .i64 m4, Value.int .i64 m5, Value.int .i64 m6, Value.int .i64 m7, Value.int .i64 m8, Value.bool gr, Value.bool ask] ++ b16 rt ++ [Value.slice A os.length c])) tA86 tS86 rfl B_gM rfl rfl) ?_
  clear hE a; intro a hE
  refine p_cons (s_call (xs := [Operand.tmp 23]) (args := [Value.agg (([Value.int .i64 m0, Value.int .i64 m1, Value.int .i64 m2, Value.int .i64 m3, Value.int .i64 m4, Value.int .i64 m5, Value.int .i64 m6, Value.int .i64 m7, Value.int .i64 m8, Value.bool gr, Value.bool ask] ++ b16 rt ++ [Value.slice A os.length c])).toArray]) p11_5_1 hE wn_none rfl rfl Try.func49 cl49 (mto_any m0 m1 m2 m3 m4 m5 m6 m7 m8 gr ask rt A c os _ (C_to hF K_0) hm hmx) ?_)
  rintro e w1 ⟨A8, c8, rfl, hc8, hF8, hk⟩
  replace B_gM := kp_blk B_gM hk (fun h => h)
  replace K_0 := K_0.then_ hk (fun _ h => h.elim)
  have hX20 := toL_len os
  have hR8 := hF8 _ (Kp.refl _ _)
  have K_s2 := Kp.refl w1 (fun _ => False)
  refine ⟨_, rfl, ?_⟩
  clear hE a; intro a hE
  refine p_cons (s_alloc p11_5_2 hE wn_none rfl tZ89 ?_)
  clear hE a; intro g3 w4 z5 B_g3 hk a hE
  replace B_g3 : w4.heap[g3]? = some (.cells (([Value.int .i64 0, Value.int .i64 0, Value.int .i64 0, Value.int .i64 0, Value.int .i64 0, Value.int .i64 0, Value.int .i64 0, Value.int .i64 0, Value.int .i64 0, Value.bool false, Value.bool false] ++ b16 (fun _ => 0) ++ [Value.slice none 0 0])).toArray 89 (0, 0)) := B_g3
  have n_gM_g3 : gM ≠ g3 := ne_new B_gM z5
  have z_0_g3 := Nat.le_trans K_0.kept.1 z5
  have z_s2_g3 := Nat.le_trans K_s2.kept.1 z5
  replace B_gM := kp_blk B_gM hk (fun h => h)
  replace K_0 := K_0.then_ hk (fun _ h => h.elim)
  replace K_s2 := K_s2.then_ hk (fun _ h => h.elim)
  clear hk
  refine p_cons (s_store (off := 0) (k := 28) (cs' := (([Value.int .i64 m0, Value.int .i64 m1, Value.int .i64 m2, Value.int .i64 m3, Value.int .i64 m4, Value.int .i64 m5, Value.int .i64 m6, Value.int .i64 m7, Value.int .i64 m8, Value.bool gr, Value.bool ask] ++ b16 rt ++ [Value.slice A8 ((toL os).length) c8])).toArray) p11_5_3 hE wn_none tS89 rfl rfl rfl rfl B_g3 (Nat.le_of_ble_eq_true rfl) rfl ?_)
  intro w6 B_g3' hk
  replace B_gM := kp_blk B_gM hk n_gM_g3
  replace K_0 := K_0.then_ hk (fun k h => by rw [show k = g3 from h]; exact Or.inr z_0_g3)
  replace K_s2 := K_s2.then_ hk (fun k h => by rw [show k = g3 from h]; exact Or.inr z_s2_g3)
  replace B_g3 := B_g3'
  clear hk
  refine p_nil ?_
  refine x_norm ?_
  refine c_reg R11_6_l ?_
  refine q0 p11_6_0 hE (st_loadN (off := 0) (k := 28) (vs := ([Value.int .i64 m0, Value.int .i64 m1, Value.int .i64 m2, Value.int .i64 m3, Value.int .i64 m4, Value.int .i64 m5, Value.int .i64 m6, Value.int .i64 m7, Value.int .i64 m8, Value.bool gr, Value.bool ask] ++ b16 rt ++ [Value.slice A8 ((toL os).length) c8])) tA89 tS89 rfl B_g3 rfl rfl) ?_
  clear hE a; intro a hE
  refine p_cons (s_call (xs := [Operand.tmp 25]) (args := [Value.agg (([Value.int .i64 m0, Value.int .i64 m1, Value.int .i64 m2, Value.int .i64 m3, Value.int .i64 m4, Value.int .i64 m5, Value.int .i64 m6, Value.int .i64 m7, Value.int .i64 m8, Value.bool gr, Value.bool ask] ++ b16 rt ++ [Value.slice A8 ((toL os).length) c8])).toArray]) p11_6_1 hE wn_none rfl rfl Try.func50 cl50 (targets_any m0 m1 m2 m3 m4 m5 m6 m7 m8 gr ask rt A8 c8 (toL os) hX _ (C_to hR8 K_s2) hc8 (by omega)) ?_)
  rintro e w7 ⟨A7, c7, rfl, hc7, hF7, hk⟩
  replace B_gM := kp_blk B_gM hk (fun h => h)
  replace B_g3 := kp_blk B_g3 hk (fun h => h)
  replace K_0 := K_0.then_ hk (fun _ h => h.elim)
  replace K_s2 := K_s2.then_ hk (fun _ h => h.elim)
  have hR7 := hF7 _ (Kp.refl _ _)
  have hg20 := tgt_len (toL os)
  have K_s8 := Kp.refl w7 (fun _ => False)
  refine ⟨_, rfl, ?_⟩
  clear hE a; intro a hE
  refine p_cons (s_call (xs := [Operand.tmp 26]) (args := [Value.slice A7 ((tgt (toL os)).length) c7]) p11_6_2 hE wn_none rfl rfl Try.func39 cl39 (of_g A7 c7 (tgt (toL os)) (ofl_tgt _) _ (C_to hR7 K_s8) hc7 (by omega)) ?_)
  rintro e w9 ⟨A6, c6, rfl, hc6, hF6, hk⟩
  replace B_gM := kp_blk B_gM hk (fun h => h)
  replace B_g3 := kp_blk B_g3 hk (fun h => h)
  replace K_0 := K_0.then_ hk (fun _ h => h.elim)
  replace K_s2 := K_s2.then_ hk (fun _ h => h.elim)
  replace K_s8 := K_s8.then_ hk (fun _ h => h.elim)
  have hR6 := hF6 _ (Kp.refl _ _)
  have K_s10 := Kp.refl w9 (fun _ => False)
  refine ⟨_, rfl, ?_⟩
  clear hE a; intro a hE
  refine q0 p11_6_3 hE (st_assign rfl) ?_
  clear hE a; intro a hE
  refine p_nil ?_
  refine x_norm ?_
  refine c_reg R11_7_l ?_
  refine q0 p11_7_0 hE (st_assign rfl) ?_
  clear hE a; intro a hE
  refine p_nil ?_
  refine x_norm ?_
  refine wp_seq ?_
  refine c_reg R11_8_l ?_
  refine q0 p11_8_0 hE (st_assign rfl) ?_
  clear hE a; intro a hE
  refine p_nil ?_
  refine x_norm ?_
  refine wp_block ?_
  refine c_loop (α := Nat) (fun i a W => ∃ (n9 : Nat), En 87 a [(1, Value.int .i64 code), (2, Value.int .i64 kind), (3, Value.pointer (some ⟨gM, 0, none⟩)), (8, Value.string (cwordO code)), (9, Value.pointer (some ⟨g3, 0, none⟩)), (10, Value.slice A6 ((tgt (toL os)).length) c6), (12, Value.int .i64 (i : Int)), (11, Value.int .i64 (n9 : Int))] ∧ i ≤ (toL os).length ∧ (n9 = (tgt ((toL os).take i)).length) ∧ n9 ≤ i ∧ W.heap[gM]? = some (.cells (([Value.int .i64 m0, Value.int .i64 m1, Value.int .i64 m2, Value.int .i64 m3, Value.int .i64 m4, Value.int .i64 m5, Value.int .i64 m6, Value.int .i64 m7, Value.int .i64 m8, Value.bool gr, Value.bool ask] ++ b16 rt ++ [Value.slice A os.length c])).toArray 86 (0, 0)) ∧ W.heap[g3]? = some (.cells (([Value.int .i64 m0, Value.int .i64 m1, Value.int .i64 m2, Value.int .i64 m3, Value.int .i64 m4, Value.int .i64 m5, Value.int .i64 m6, Value.int .i64 m7, Value.int .i64 m8, Value.bool gr, Value.bool ask] ++ b16 rt ++ [Value.slice A8 ((toL os).length) c8])).toArray 89 (0, 0)) ∧ Kp w W (fun _ => False) ∧ Kp w1 W (fun _ => False) ∧ Kp w7 W (fun _ => False) ∧ Kp w9 W (fun _ => False)) (fun i => (toL os).length - i) (0) ?_ ?_
  ·
    exact ⟨0, En.sub hE ⟨rfl, rfl, rfl, rfl, rfl, rfl, rfl, rfl, trivial⟩, Nat.zero_le _, rfl, Nat.le_refl _, B_gM, B_g3, K_0, K_s2, K_s8, K_s10⟩
  ·
    clear hE a
    rintro i a w11 ⟨n9, hE, hi9, hn9, hnb, B_gM, B_g3, K_0, K_s2, K_s8, K_s10⟩
    refine wp_seq ?_
    rcases Decidable.em ((i : Int) < ((toL os).length : Int)) with hK1 | hK1
    ·
      refine c_reg R11_9_l ?_
      refine q0 p11_9_0 hE (st_move rfl) ?_
      clear hE a; intro a hE
      refine q0 p11_9_1 hE (st_fieldAddr Try.underlying89 rfl tS58 rfl rfl) ?_
      clear hE a; intro a hE
      refine q0 p11_9_2 hE (st_load1 tA58 rfl ((blk_cell B_g3 27).trans rfl)) ?_
      clear hE a; intro a hE
      refine q0 p11_9_3 hE (st_len Try.underlying58 rfl) ?_
      clear hE a; intro a hE
      refine q0 p11_9_4 hE (st_lss (b := true) rfl rfl (decide_eq_true hK1)) ?_
      clear hE a; intro a hE
      refine p_nil ?_
      refine x_norm ?_
      refine c_cond (t := true) hE rfl ?_
      refine wp_skip ?_
      refine x_norm ?_
      refine wp_seq ?_
      refine wp_block ?_
      refine wp_seq ?_
      have hix : i < (toL os).length := by omega
      obtain ⟨hAe12, cce12, hKe12, hce12⟩ := C_elem (i := i) hR8 zO (show i < (toL os).length by omega)
      obtain ⟨x, hxe12⟩ : ∃ x, List.getD (toL os) i zO = x := ⟨_, rfl⟩
      rw [hxe12] at hKe12
      obtain ⟨Ae12, qe12, Te12, ce12, rfl, hle12, hme12, hCe12, hDe12⟩ := opt_open hKe12
      rcases Decidable.em (x.1 = 5) with hE5 | hE5
      ·
        refine c_reg R11_11_l ?_
        refine q0 p11_11_0 hE (st_fieldAddr Try.underlying89 rfl tS58 rfl rfl) ?_
        clear hE a; intro a hE
        refine q0 p11_11_1 hE (st_load1 tA58 rfl ((blk_cell B_g3 27).trans rfl)) ?_
        clear hE a; intro a hE
        refine q0 p11_11_2 hE (st_move rfl) ?_
        clear hE a; intro a hE
        refine q0 p11_11_3 hE (st_indexAddrR (i := i) (s := 19) Try.underlying58 tS64 hAe12 rfl rfl (by omega)) ?_
        clear hE a; intro a hE
        refine q0 p11_11_4 hE (st_fieldAddrR (off := i * 19) (f0 := 0) (o' := i * 19) Try.underlying64 rfl tS3 rfl (by omega) rfl) ?_
        clear hE a; intro a hE
        refine q0 p11_11_5 hE (st_loadR1 (off := i * 19) (j := 0) tA3 (fun j u h => cell_to K_s2 (hce12 j u h)) rfl (by omega) rfl) ?_
        clear hE a; intro a hE
        refine q0 p11_11_6 hE (st_neq (b := false) rfl rfl (by simp [hE5])) ?_
        clear hE a; intro a hE
        refine p_nil ?_
        refine x_norm ?_
        refine c_cond (t := false) hE rfl ?_
        refine wp_skip ?_
        refine x_norm ?_
        refine wp_seq ?_
        have h5x : isT (List.getD (toL os) i zO) = true := by rw [hxe12]; exact decide_eq_true hE5
        have hta := tgt_at hix h5x
        rw [← hn9] at hta
        have hokx := hX _ (getD_mem hix zO)
        rw [hxe12] at hokx
        have hnlt := hta.1
        obtain ⟨hAe13, cce13, hKe13, hce13⟩ := C_elem (i := n9) hR6 zO (show n9 < (tgt (toL os)).length by omega)
        obtain ⟨y, hxe13⟩ : ∃ x, List.getD (tgt (toL os)) n9 zO = x := ⟨_, rfl⟩
        rw [hxe13] at hKe13
        obtain ⟨Ae13, qe13, Te13, ce13, rfl, hle13, hme13, hCe13, hDe13⟩ := opt_open hKe13
        refine c_drawS (S := fun W => W.heap[gM]? = some (.cells (([Value.int .i64 m0, Value.int .i64 m1, Value.int .i64 m2, Value.int .i64 m3, Value.int .i64 m4, Value.int .i64 m5, Value.int .i64 m6, Value.int .i64 m7, Value.int .i64 m8, Value.bool gr, Value.bool ask] ++ b16 rt ++ [Value.slice A os.length c])).toArray 86 (0, 0)) ∧ W.heap[g3]? = some (.cells (([Value.int .i64 m0, Value.int .i64 m1, Value.int .i64 m2, Value.int .i64 m3, Value.int .i64 m4, Value.int .i64 m5, Value.int .i64 m6, Value.int .i64 m7, Value.int .i64 m8, Value.bool gr, Value.bool ask] ++ b16 rt ++ [Value.slice A8 ((toL os).length) c8])).toArray 89 (0, 0)) ∧ (∀ j u, (([Value.int .i64 y.1, Value.slice Ae13 y.2.1.length qe13] ++ b16 (adr y) ++ [Value.slice Te13 y.2.2.2.length ce13]))[j]? = some u → W.cell? (ea A6 (n9 * 19 + j)) = some u) ∧ True) rfl rfl (listed := #[false, false, false, false, false, false, false, false, false, false, false, false, false, false, false, false, false, false, false, false, false]) rfl ?_
        intro w14 hh hk
        replace B_gM := kp_blk B_gM hk (fun h => h)
        replace B_g3 := kp_blk B_g3 hk (fun h => h)
        replace K_0 := K_0.then_ hk (fun _ h => h.elim)
        replace K_s2 := K_s2.then_ hk (fun _ h => h.elim)
        replace K_s8 := K_s8.then_ hk (fun _ h => h.elim)
        replace K_s10 := K_s10.then_ hk (fun _ h => h.elim)
        clear hh hk
        refine d_take (v := Value.int .i64 (n9 : Int)) p11_12_0 ns11_12 (by kernel_rfl) (by kernel_rfl) (fun _ _ _ h => h) hE wn_none rfl ⟨B_gM, B_g3, (fun j u h => cell_to K_s10 (hce13 j u h)), trivial⟩ (fun W hS => (st_move rfl)) rfl ?_
        clear hE a; intro a hE
        refine d_take (v := Value.slice A6 ((tgt (toL os)).length) c6) p11_12_1 ns11_12 (by kernel_rfl) (by kernel_rfl) (fun _ _ _ h => h) hE wn_none rfl ⟨B_gM, B_g3, (fun j u h => cell_to K_s10 (hce13 j u h)), trivial⟩ (fun W hS => (st_move rfl)) rfl ?_
        clear hE a; intro a hE
        refine d_take (v := Value.int .i64 ((tgt (toL os)).length : Int)) p11_12_2 ns11_12 (by kernel_rfl) (by kernel_rfl) (fun _ _ _ h => h) hE wn_none rfl ⟨B_gM, B_g3, (fun j u h => cell_to K_s10 (hce13 j u h)), trivial⟩ (fun W hS => (st_len Try.underlying57 rfl)) rfl ?_
        clear hE a; intro a hE
        refine d_take (v := Value.bool false) p11_12_3 ns11_12 (by kernel_rfl) (by kernel_rfl) (fun _ _ _ h => h) hE wn_none rfl ⟨B_gM, B_g3, (fun j u h => cell_to K_s10 (hce13 j u h)), trivial⟩ (fun W hS => (st_geq (b := false) rfl rfl (decide_eq_false (by omega)))) rfl ?_
        clear hE a; intro a hE
        refine d_take (v := Value.bool false) p11_12_4 ns11_12 (by kernel_rfl) (by kernel_rfl) (fun _ _ _ h => h) hE wn_none rfl ⟨B_gM, B_g3, (fun j u h => cell_to K_s10 (hce13 j u h)), trivial⟩ (fun W hS => (st_move rfl)) rfl ?_
        clear hE a; intro a hE
        refine d_take (v := Value.slice A6 ((tgt (toL os)).length) c6) p11_12_5 ns11_12 (by kernel_rfl) (by kernel_rfl) (fun _ _ _ h => h) hE (wn_some g11_12_4 rfl rfl) rfl ⟨B_gM, B_g3, (fun j u h => cell_to K_s10 (hce13 j u h)), trivial⟩ (fun W hS => (st_move rfl)) rfl ?_
        clear hE a; intro a hE
        refine d_take (v := Value.int .i64 (n9 : Int)) p11_12_6 ns11_12 (by kernel_rfl) (by kernel_rfl) (fun _ _ _ h => h) hE (wn_some g11_12_4 rfl rfl) rfl ⟨B_gM, B_g3, (fun j u h => cell_to K_s10 (hce13 j u h)), trivial⟩ (fun W hS => (st_move rfl)) rfl ?_
        clear hE a; intro a hE
        refine d_take (v := Value.pointer (some (ea A6 (n9 * 19)))) p11_12_7 ns11_12 (by kernel_rfl) (by kernel_rfl) (fun _ _ _ h => h) hE (wn_some g11_12_4 rfl rfl) rfl ⟨B_gM, B_g3, (fun j u h => cell_to K_s10 (hce13 j u h)), trivial⟩ (fun W hS => (st_indexAddrR (i := n9) (s := 19) Try.underlying57 tS80 hAe13 rfl rfl (by omega))) rfl ?_
        clear hE a; intro a hE
        refine d_take (v := Value.agg (([Value.int .i64 y.1, Value.slice Ae13 y.2.1.length qe13] ++ b16 (adr y) ++ [Value.slice Te13 y.2.2.2.length ce13])).toArray) p11_12_8 ns11_12 (by kernel_rfl) (by kernel_rfl) (fun _ _ _ h => h) hE (wn_some g11_12_4 rfl rfl) rfl ⟨B_gM, B_g3, (fun j u h => cell_to K_s10 (hce13 j u h)), trivial⟩ (fun W hS => (st_loadR (off := n9 * 19) (j := 0) (k := 19) (vs := ([Value.int .i64 y.1, Value.slice Ae13 y.2.1.length qe13] ++ b16 (adr y) ++ [Value.slice Te13 y.2.2.2.length ce13])) tA80 tS80 (hS.2.2.1) rfl rfl (by omega) rfl)) rfl ?_
        clear hE a; intro a hE
        refine d_take (v := Value.pointer (some ⟨g3, 27, none⟩)) p11_12_9 ns11_12 (by kernel_rfl) (by kernel_rfl) (fun _ _ _ h => h) hE (wn_some g11_12_4 rfl rfl) rfl ⟨B_gM, B_g3, (fun j u h => cell_to K_s10 (hce13 j u h)), trivial⟩ (fun W hS => (st_fieldAddr Try.underlying89 rfl tS58 rfl rfl)) rfl ?_
        clear hE a; intro a hE
        refine d_take (v := Value.slice A8 ((toL os).length) c8) p11_12_10 ns11_12 (by kernel_rfl) (by kernel_rfl) (fun _ _ _ h => h) hE (wn_some g11_12_4 rfl rfl) rfl ⟨B_gM, B_g3, (fun j u h => cell_to K_s10 (hce13 j u h)), trivial⟩ (fun W hS => (st_load1 tA58 rfl ((blk_cell hS.2.1 27).trans rfl))) rfl ?_
        clear hE a; intro a hE
        refine d_take (v := Value.int .i64 (i : Int)) p11_12_11 ns11_12 (by kernel_rfl) (by kernel_rfl) (fun _ _ _ h => h) hE (wn_some g11_12_4 rfl rfl) rfl ⟨B_gM, B_g3, (fun j u h => cell_to K_s10 (hce13 j u h)), trivial⟩ (fun W hS => (st_move rfl)) rfl ?_
        clear hE a; intro a hE
        refine d_take (v := Value.int .i64 (i : Int)) p11_12_12 ns11_12 (by kernel_rfl) (by kernel_rfl) (fun _ _ _ h => h) hE (wn_some g11_12_4 rfl rfl) rfl ⟨B_gM, B_g3, (fun j u h => cell_to K_s10 (hce13 j u h)), trivial⟩ (fun W hS => (st_move rfl)) rfl ?_
        clear hE a; intro a hE
        refine d_take (v := Value.int .i64 ((i : Int) + 1)) p11_12_13 ns11_12 (by kernel_rfl) (by kernel_rfl) (fun _ _ _ h => h) hE (wn_some g11_12_4 rfl rfl) rfl ⟨B_gM, B_g3, (fun j u h => cell_to K_s10 (hce13 j u h)), trivial⟩ (fun W hS => (st_add (z := (i : Int) + 1) rfl rfl (wr_i64 _ (by omega) (by omega)))) rfl ?_
        clear hE a; intro a hE
        refine d_take (v := Value.slice (Option.map (fun z => Addr.add z (i * 19)) A8) 1 (c8 - i)) p11_12_14 ns11_12 (by kernel_rfl) (by kernel_rfl) (fun _ _ _ h => h) hE (wn_some g11_12_4 rfl rfl) rfl ⟨B_gM, B_g3, (fun j u h => cell_to K_s10 (hce13 j u h)), trivial⟩ (fun W hS => (st_sliceLH (lo := i) (hi := i + 1) (A' := (Option.map (fun z => Addr.add z (i * 19)) A8)) Try.underlying58 tS64 rfl rfl rfl (by omega) (by omega) (by omega) rfl (by rw [if_neg (by omega)]))) rfl ?_
        clear hE a; intro a hE
        refine d_one (by kernel_rfl) rfl (s_call (xs := [Operand.tmp 56]) (args := [Value.slice (Option.map (fun z => Addr.add z (i * 19)) A8) 1 (c8 - i)]) p11_12_15 hE (wn_some g11_12_4 rfl rfl) rfl rfl Try.func39 cl39 (of_1 (Option.map (fun z => Addr.add z (i * 19)) A8) (c8 - i) x _ (by have := C_sub (C_to hR8 K_s2) zO (show i < (toL os).length by omega); rw [hxe12] at this; exact this) (by omega)) ?_)
        rintro e w15 ⟨A5, c5, rfl, hc5, hF5, hk⟩
        replace B_gM := kp_blk B_gM hk (fun h => h)
        replace B_g3 := kp_blk B_g3 hk (fun h => h)
        replace K_0 := K_0.then_ hk (fun _ h => h.elim)
        replace K_s2 := K_s2.then_ hk (fun _ h => h.elim)
        replace K_s8 := K_s8.then_ hk (fun _ h => h.elim)
        replace K_s10 := K_s10.then_ hk (fun _ h => h.elim)
        have hR5 := hF5 _ (Kp.refl _ _)
        obtain ⟨zx, hzx⟩ : ∃ z, ofV x = z := ⟨_, rfl⟩
        rw [hzx] at hR5
        have K_s16 := Kp.refl w15 (fun _ => False)
        obtain ⟨hAe17, cce17, hKe17, hce17⟩ := C_elem (i := 0) hR5 zO (show 0 < 1 by omega)
        obtain ⟨v, hxe17⟩ : ∃ x, List.getD ([zx]) 0 zO = x := ⟨_, rfl⟩
        rw [hxe17] at hKe17
        obtain ⟨Ae17, qe17, Te17, ce17, rfl, hle17, hme17, hCe17, hDe17⟩ := opt_open hKe17
        refine ⟨_, rfl, ?_⟩
        clear hE a; intro a hE
        refine ⟨⟨B_gM, B_g3, (fun j u h => cell_to K_s10 (hce13 j u h)), trivial⟩, ?_⟩
        refine d_take (v := Value.pointer (some (ea A5 (0 * 19)))) p11_12_16 ns11_12 (by kernel_rfl) (by kernel_rfl) (fun _ _ _ h => h) hE (wn_some g11_12_4 rfl rfl) rfl ⟨B_gM, B_g3, (fun j u h => cell_to K_s10 (hce13 j u h)), trivial⟩ (fun W hS => (st_indexAddrR (i := 0) (s := 19) Try.underlying57 tS80 hAe17 rfl rfl (by omega))) rfl ?_
        clear hE a; intro a hE
        refine d_one (by kernel_rfl) rfl (s_still p11_12_17 hE (wn_some g11_12_4 rfl rfl) rfl (st_loadR (off := 0 * 19) (j := 0) (k := 19) (vs := ([Value.int .i64 v.1, Value.slice Ae17 v.2.1.length qe17] ++ b16 (adr v) ++ [Value.slice Te17 v.2.2.2.length ce17])) tA80 tS80 (fun j u h => cell_to K_s16 (hce17 j u h)) rfl rfl (by omega) rfl) ?_)
        clear hE a; intro a hE
        refine ⟨⟨B_gM, B_g3, (fun j u h => cell_to K_s10 (hce13 j u h)), trivial⟩, ?_⟩
        have hyv : y = cpV x := by rw [← hxe13, ← hxe12]; exact hta.2
        have hvv : v = ofV x := hxe17.symm.trans hzx.symm
        refine d_one (by kernel_rfl) rfl (s_call (xs := [Operand.tmp 50, Operand.tmp 59]) (args := [Value.agg (([Value.int .i64 y.1, Value.slice Ae13 y.2.1.length qe13] ++ b16 (adr y) ++ [Value.slice Te13 y.2.2.2.length ce13])).toArray, Value.agg (([Value.int .i64 v.1, Value.slice Ae17 v.2.1.length qe17] ++ b16 (adr v) ++ [Value.slice Te17 v.2.2.2.length ce17])).toArray]) p11_12_18 hE (wn_some g11_12_4 rfl rfl) rfl rfl Try.func51 cl51 (rsame_o y.1 y.2.1 y.2.2.2 (adr y) Ae13 Te13 qe13 ce13 v.1 v.2.1 v.2.2.2 (adr v) Ae17 Te17 qe17 ce17 true (by rw [hyv, hvv]; exact same_cp x) (by rw [hyv]; exact hokx.1) (by rw [hvv]; exact hokx.1) _ (fun W' hk => C_to hCe13 (K_s10.then_ hk (fun _ h => h.elim))) (fun W' hk => C_to hDe13 (K_s10.then_ hk (fun _ h => h.elim))) (fun W' hk => C_to hCe17 (K_s16.then_ hk (fun _ h => h.elim))) (fun W' hk => C_to hDe17 (K_s16.then_ hk (fun _ h => h.elim))) (by rw [hyv]; exact Nat.le_trans hokx.2.1 (by decide)) (by rw [hyv]; exact Nat.le_trans hokx.2.2 (by decide)) hme13 hme17 (by rw [hvv]; exact Nat.le_trans hokx.2.2 (by decide))) ?_)
        rintro e w18 ⟨rfl, hk⟩
        replace B_gM := kp_blk B_gM hk (fun h => h)
        replace B_g3 := kp_blk B_g3 hk (fun h => h)
        replace K_0 := K_0.then_ hk (fun _ h => h.elim)
        replace K_s2 := K_s2.then_ hk (fun _ h => h.elim)
        replace K_s8 := K_s8.then_ hk (fun _ h => h.elim)
        replace K_s10 := K_s10.then_ hk (fun _ h => h.elim)
        replace K_s16 := K_s16.then_ hk (fun _ h => h.elim)
        refine ⟨_, rfl, ?_⟩
        clear hE a; intro a hE
        refine ⟨⟨B_gM, B_g3, (fun j u h => cell_to K_s10 (hce13 j u h)), trivial⟩, ?_⟩
        refine d_take (v := Value.bool false) p11_12_19 ns11_12 (by kernel_rfl) (by kernel_rfl) (fun _ _ _ h => h) hE (wn_some g11_12_4 rfl rfl) rfl ⟨B_gM, B_g3, (fun j u h => cell_to K_s10 (hce13 j u h)), trivial⟩ (fun W hS => (st_not rfl rfl)) rfl ?_
        clear hE a; intro a hE
        refine d_take (v := Value.bool false) p11_12_20 ns11_12 (by kernel_rfl) (by kernel_rfl) (fun _ _ _ h => h) hE wn_none rfl ⟨B_gM, B_g3, (fun j u h => cell_to K_s10 (hce13 j u h)), trivial⟩ (fun W hS => (st_pick rfl rfl)) rfl ?_
        clear hE a; intro a hE
        refine d_end (by kernel_rfl) ?_
        refine x_norm ?_
        refine c_cond (t := false) hE rfl ?_
        refine wp_skip ?_
        refine x_norm ?_
        refine c_regL R11_14_l ?_
        refine q0 p11_14_0 hE (st_move rfl) ?_
        clear hE a; intro a hE
        refine q0 p11_14_1 hE (st_add (z := (n9 : Int) + 1) rfl rfl (wr_i64 _ (by omega) (by omega))) ?_
        clear hE a; intro a hE
        refine q0 p11_14_2 hE (st_assign rfl) ?_
        clear hE a; intro a hE
        refine p_nil ?_
        refine x_normB ?_
        refine x_norm ?_
        refine c_regL R11_10_l ?_
        refine q0 p11_10_0 hE (st_move rfl) ?_
        clear hE a; intro a hE
        refine q0 p11_10_1 hE (st_add (z := (i : Int) + 1) rfl rfl (wr_i64 _ (by omega) (by omega))) ?_
        clear hE a; intro a hE
        refine q0 p11_10_2 hE (st_assign rfl) ?_
        clear hE a; intro a hE
        refine p_nil ?_
        refine x_norm ?_
        have hn99 : n9 + 1 = (tgt ((toL os).take (i + 1))).length := by rw [tgt_succ hix, if_pos h5x, List.length_append, ← hn9]; rfl
        exact ⟨i + 1, by omega, (n9 + 1), En.sub hE ⟨rfl, rfl, rfl, rfl, rfl, rfl, rfl, (by first | rfl | exact congrArg (fun z => some (Value.int .i64 z)) (by omega)), trivial⟩, by omega, hn99, (by omega), B_gM, B_g3, K_0, K_s2, K_s8, K_s10⟩
      ·
        refine c_reg R11_11_l ?_
        refine q0 p11_11_0 hE (st_fieldAddr Try.underlying89 rfl tS58 rfl rfl) ?_
        clear hE a; intro a hE
        refine q0 p11_11_1 hE (st_load1 tA58 rfl ((blk_cell B_g3 27).trans rfl)) ?_
        clear hE a; intro a hE
        refine q0 p11_11_2 hE (st_move rfl) ?_
        clear hE a; intro a hE
        refine q0 p11_11_3 hE (st_indexAddrR (i := i) (s := 19) Try.underlying58 tS64 hAe12 rfl rfl (by omega)) ?_
        clear hE a; intro a hE
        refine q0 p11_11_4 hE (st_fieldAddrR (off := i * 19) (f0 := 0) (o' := i * 19) Try.underlying64 rfl tS3 rfl (by omega) rfl) ?_
        clear hE a; intro a hE
        refine q0 p11_11_5 hE (st_loadR1 (off := i * 19) (j := 0) tA3 (fun j u h => cell_to K_s2 (hce12 j u h)) rfl (by omega) rfl) ?_
        clear hE a; intro a hE
        refine q0 p11_11_6 hE (st_neq (b := true) rfl rfl (by simp [hE5])) ?_
        clear hE a; intro a hE
        refine p_nil ?_
        refine x_norm ?_
        refine c_cond (t := true) hE rfl ?_
        refine wp_exit ?_
        refine x_exit ?_
        refine x_in ?_
        refine x_norm ?_
        refine c_regL R11_10_l ?_
        refine q0 p11_10_0 hE (st_move rfl) ?_
        clear hE a; intro a hE
        refine q0 p11_10_1 hE (st_add (z := (i : Int) + 1) rfl rfl (wr_i64 _ (by omega) (by omega))) ?_
        clear hE a; intro a hE
        refine q0 p11_10_2 hE (st_assign rfl) ?_
        clear hE a; intro a hE
        refine p_nil ?_
        refine x_norm ?_
        have hn99 : n9 = (tgt ((toL os).take (i + 1))).length := by rw [tgt_succ hix, hxe12, if_neg (show ¬ (isT x = true) from fun h => hE5 (of_decide_eq_true h)), List.append_nil, ← hn9]
        exact ⟨i + 1, by omega, n9, En.sub hE ⟨rfl, rfl, rfl, rfl, rfl, rfl, rfl, (by first | rfl | exact congrArg (fun z => some (Value.int .i64 z)) (by omega)), trivial⟩, by omega, hn99, (by omega), B_gM, B_g3, K_0, K_s2, K_s8, K_s10⟩
    ·
      refine c_reg R11_9_l ?_
      refine q0 p11_9_0 hE (st_move rfl) ?_
      clear hE a; intro a hE
      refine q0 p11_9_1 hE (st_fieldAddr Try.underlying89 rfl tS58 rfl rfl) ?_
      clear hE a; intro a hE
      refine q0 p11_9_2 hE (st_load1 tA58 rfl ((blk_cell B_g3 27).trans rfl)) ?_
      clear hE a; intro a hE
      refine q0 p11_9_3 hE (st_len Try.underlying58 rfl) ?_
      clear hE a; intro a hE
      refine q0 p11_9_4 hE (st_lss (b := false) rfl rfl (decide_eq_false hK1)) ?_
      clear hE a; intro a hE
      refine p_nil ?_
      refine x_norm ?_
      refine c_cond (t := false) hE rfl ?_
      refine wp_exit ?_
      refine x_exit ?_
      refine x_exit ?_
      have hii : i = (toL os).length := by omega
      subst hii
      rw [List.take_length] at hn9
      refine x_in ?_
      refine x_norm ?_
      refine c_reg R11_15_l ?_
      refine p_cons (s_call (xs := []) (args := []) p11_15_0 hE wn_none rfl rfl Try.func52 cl52 (cknown_any  _) ?_)
      rintro e w19 ⟨rfl, hk⟩
      replace B_gM := kp_blk B_gM hk (fun h => h)
      replace B_g3 := kp_blk B_g3 hk (fun h => h)
      replace K_0 := K_0.then_ hk (fun _ h => h.elim)
      replace K_s2 := K_s2.then_ hk (fun _ h => h.elim)
      replace K_s8 := K_s8.then_ hk (fun _ h => h.elim)
      replace K_s10 := K_s10.then_ hk (fun _ h => h.elim)
      refine ⟨_, rfl, ?_⟩
      clear hE a; intro a hE
      refine q0 p11_15_1 hE (st_move rfl) ?_
      clear hE a; intro a hE
      refine p_cons (s_still p11_15_2 hE (wn_some g11_15_1 rfl rfl) rfl (st_move rfl) ?_)
      clear hE a; intro a hE
      refine p_cons (s_still p11_15_3 hE (wn_some g11_15_1 rfl rfl) rfl (st_move rfl) ?_)
      clear hE a; intro a hE
      refine p_cons (s_still p11_15_4 hE (wn_some g11_15_1 rfl rfl) rfl (st_len Try.underlying57 rfl) ?_)
      clear hE a; intro a hE
      refine p_cons (s_still p11_15_5 hE (wn_some g11_15_1 rfl rfl) rfl (st_eql (b := true) rfl rfl (decide_eq_true (by omega))) ?_)
      clear hE a; intro a hE
      refine q0 p11_15_6 hE (st_pick rfl rfl) ?_
      clear hE a; intro a hE
      refine q0 p11_15_7 hE (st_move rfl) ?_
      clear hE a; intro a hE
      refine p_cons (s_still p11_15_8 hE (wn_some g11_15_7 rfl rfl) rfl (st_move rfl) ?_)
      clear hE a; intro a hE
      refine p_cons (s_call (xs := [Operand.tmp 73]) (args := [Value.int .i64 code]) p11_15_9 hE (wn_some g11_15_7 rfl rfl) rfl rfl Try.func53 cl53 (cword_any code _) ?_)
      rintro e w20 ⟨rfl, hk⟩
      replace B_gM := kp_blk B_gM hk (fun h => h)
      replace B_g3 := kp_blk B_g3 hk (fun h => h)
      replace K_0 := K_0.then_ hk (fun _ h => h.elim)
      replace K_s2 := K_s2.then_ hk (fun _ h => h.elim)
      replace K_s8 := K_s8.then_ hk (fun _ h => h.elim)
      replace K_s10 := K_s10.then_ hk (fun _ h => h.elim)
      refine ⟨_, rfl, ?_⟩
      clear hE a; intro a hE
      refine p_cons (s_still p11_15_10 hE (wn_some g11_15_7 rfl rfl) rfl (st_move rfl) ?_)
      clear hE a; intro a hE
      refine p_cons (s_still p11_15_11 hE (wn_some g11_15_7 rfl rfl) rfl (st_eqlS (b := true) rfl rfl (beq_self_eq_true _)) ?_)
      clear hE a; intro a hE
      refine q0 p11_15_12 hE (st_pick rfl rfl) ?_
      clear hE a; intro a hE
      refine q0 p11_15_13 hE (st_move rfl) ?_
      clear hE a; intro a hE
      refine p_cons (s_still p11_15_14 hE (wn_some g11_15_13 rfl rfl) rfl (st_move rfl) ?_)
      clear hE a; intro a hE
      refine p_cons (s_still p11_15_15 hE (wn_some g11_15_13 rfl rfl) rfl (st_move rfl) ?_)
      clear hE a; intro a hE
      refine p_cons (s_call (xs := [Operand.tmp 79, Operand.tmp 80]) (args := [Value.int .i64 code, Value.int .i64 kind]) p11_15_16 hE (wn_some g11_15_13 rfl rfl) rfl rfl Try.func54 cl54 (cmay_any code kind _) ?_)
      rintro e w21 ⟨rfl, hk⟩
      replace B_gM := kp_blk B_gM hk (fun h => h)
      replace B_g3 := kp_blk B_g3 hk (fun h => h)
      replace K_0 := K_0.then_ hk (fun _ h => h.elim)
      replace K_s2 := K_s2.then_ hk (fun _ h => h.elim)
      replace K_s8 := K_s8.then_ hk (fun _ h => h.elim)
      replace K_s10 := K_s10.then_ hk (fun _ h => h.elim)
      refine ⟨_, rfl, ?_⟩
      clear hE a; intro a hE
      refine p_cons (s_still p11_15_17 hE (wn_some g11_15_13 rfl rfl) rfl (st_move rfl) ?_)
      clear hE a; intro a hE
      refine p_cons (s_still p11_15_18 hE (wn_some g11_15_13 rfl rfl) rfl (st_move rfl) ?_)
      clear hE a; intro a hE
      refine p_cons (s_call (xs := [Operand.tmp 82, Operand.tmp 83]) (args := [Value.int .i64 code, Value.int .i64 kind]) p11_15_19 hE (wn_some g11_15_13 rfl rfl) rfl rfl Try.func55 cl55 (rmay_any code kind _) ?_)
      rintro e w22 ⟨rfl, hk⟩
      replace B_gM := kp_blk B_gM hk (fun h => h)
      replace B_g3 := kp_blk B_g3 hk (fun h => h)
      replace K_0 := K_0.then_ hk (fun _ h => h.elim)
      replace K_s2 := K_s2.then_ hk (fun _ h => h.elim)
      replace K_s8 := K_s8.then_ hk (fun _ h => h.elim)
      replace K_s10 := K_s10.then_ hk (fun _ h => h.elim)
      refine ⟨_, rfl, ?_⟩
      clear hE a; intro a hE
      refine p_cons (s_still p11_15_20 hE (wn_some g11_15_13 rfl rfl) rfl (st_eqlB (b := true) Try.underlying4 rfl rfl (by simp)) ?_)
      clear hE a; intro a hE
      refine q0 p11_15_21 hE (st_pick rfl rfl) ?_
      clear hE a; intro a hE
      refine q0 p11_15_22 hE (st_assign rfl) ?_
      clear hE a; intro a hE
      refine p_nil ?_
      refine x_norm ?_
      refine wp_ret ?_
      refine ret_one (v := Value.bool true) rfl hE (.tmp rfl .nil) ?_
      exact hR_ _ K_0
theorem R11_0_l : List.range (regOf Try.f11 0).size = [0, 1] := by kernel_rfl
theorem R11_1_l : List.range (regOf Try.f11 1).size = [0, 1, 2] := by kernel_rfl
theorem R11_2_l : List.range (regOf Try.f11 2).size = [0] := by kernel_rfl
theorem R11_3_l : List.range (regOf Try.f11 3).size = [0, 1, 2, 3, 4, 5] := by kernel_rfl
theorem R11_4_l : List.range (regOf Try.f11 4).size = [0, 1, 2, 3] := by kernel_rfl
theorem body11 : Try.f11.body = some (.seq (.region 0 (regOf Try.f11 0) false) (.seq (.region 1 (regOf Try.f11 1) false) (.seq (.region 2 (regOf Try.f11 2) false) (.seq (.seq (.region 3 (regOf Try.f11 3) false) (.cond (Operand.tmp 19) (.region 4 (regOf Try.f11 4) false) (.skip))) (.seq (.region 5 (regOf Try.f11 5) false) (.seq (.region 6 (regOf Try.f11 6) false) (.seq (.region 7 (regOf Try.f11 7) false) (.seq (.seq (.region 8 (regOf Try.f11 8) false) (.block 0 (.loop (.seq (.seq (.region 9 (regOf Try.f11 9) false) (.cond (Operand.tmp 32) (.skip) (.exit 0))) (.seq (.block 1 (.seq (.seq (.region 11 (regOf Try.f11 11) false) (.cond (Operand.tmp 41) (.exit 1) (.skip))) (.seq (.seq (.region 12 (regOf Try.f11 12) true) (.cond (Operand.tmp 62) (.seq (.region 13 (regOf Try.f11 13) false) (.ret)) (.skip))) (.region 14 (regOf Try.f11 14) false)))) (.region 10 (regOf Try.f11 10) false)))))) (.seq (.region 15 (regOf Try.f11 15) false) (.ret)))))))))) := by kernel_rfl
theorem p11_0_0 : pj (regOf Try.f11 0) 0 = some (some 3, .box 86 (.tmp 0), 0, none) := by kernel_rfl
theorem p11_0_1 : pj (regOf Try.f11 0) 1 = some (some 6, .assign (.const (.bool false)), 4, none) := by kernel_rfl
theorem p11_1_0 : pj (regOf Try.f11 1) 0 = some (some 13, .build 87 #[(0, .const (.string { data := #[100, 105, 115] })), (1, .const (.string { data := #[100, 105, 111] })), (2, .const (.string { data := #[100, 97, 111] })), (3, .const (.string { data := #[97, 99, 107] }))], 87, none) := by kernel_rfl
theorem p11_1_1 : pj (regOf Try.f11 1) 1 = some (some 7, .alloc 87, 0, none) := by kernel_rfl
theorem tZ87 : (Try.prog.info? 87).bind (·.zero) = some (Value.agg #[Value.string ByteArray.empty, Value.string ByteArray.empty, Value.string ByteArray.empty, Value.string ByteArray.empty]) := by kernel_rfl
theorem p11_1_2 : pj (regOf Try.f11 1) 2 = some (none, .store 87 (.tmp 7) (.tmp 13), 0, none) := by kernel_rfl
theorem tS87 : (Try.prog.info? 87).map (·.size) = some 4 := by kernel_rfl
theorem p11_2_0 : pj (regOf Try.f11 2) 0 = some (some 8, .assign (.const (.string { data := #[] })), 9, none) := by kernel_rfl
theorem p11_3_0 : pj (regOf Try.f11 3) 0 = some (some 14, .move (.tmp 1), 3, none) := by kernel_rfl
theorem p11_3_1 : pj (regOf Try.f11 3) 1 = some (some 15, .binOp .geq 3 (.tmp 14) (.const (.int .i64 0)) 3, 4, none) := by kernel_rfl
theorem p11_3_2 : pj (regOf Try.f11 3) 2 = some (some 16, .move (.tmp 15), 4, none) := by kernel_rfl
theorem p11_3_3 : pj (regOf Try.f11 3) 3 = some (some 17, .move (.tmp 1), 3, some (2, true)) := by kernel_rfl
theorem g11_3_2 : dstOf (regOf Try.f11 3) 2 = some 16 := by kernel_rfl
theorem p11_3_4 : pj (regOf Try.f11 3) 4 = some (some 18, .binOp .lss 3 (.tmp 17) (.const (.int .i64 4)) 3, 4, some (2, true)) := by kernel_rfl
theorem p11_3_5 : pj (regOf Try.f11 3) 5 = some (some 19, .pick (.tmp 16) (.tmp 18) (.const (.bool false)), 4, none) := by kernel_rfl
theorem p11_4_0 : pj (regOf Try.f11 4) 0 = some (some 20, .move (.tmp 1), 3, none) := by kernel_rfl
theorem p11_4_1 : pj (regOf Try.f11 4) 1 = some (some 21, .indexAddr 87 (.tmp 7) (.tmp 20), 0, none) := by kernel_rfl
theorem tS9 : (Try.prog.info? 9).map (·.size) = some 1 := by kernel_rfl
theorem p11_4_2 : pj (regOf Try.f11 4) 2 = some (some 22, .load 9 (.tmp 21), 9, none) := by kernel_rfl
theorem tA9 : (Try.prog.underlying 9).map aggD = some false := by kernel_rfl
theorem p11_4_3 : pj (regOf Try.f11 4) 3 = some (some 8, .assign (.tmp 22), 9, none) := by kernel_rfl
set_option maxHeartbeats 4000000 in
theorem law_R {R : Ending → World → Prop} (m0 m1 m2 m3 m4 m5 m6 m7 m8 : Int) (gr ask : Bool) (rt : Nat → Int) (A : Option Addr) (c : Nat) (os : List OV) (code kind : Int) (w : World) (hF : Kd.C dO w A os.length os) (hm : os.length ≤ c) (hmx : os.length ≤ maxLen) (hX : ∀ x ∈ toL os, okO x) (hR_ : ∀ w', Kp w w' (fun _ => False) → R (.returned (.bool true)) w') : Calls Try.prog 11 #[Value.agg (([Value.int .i64 m0, Value.int .i64 m1, Value.int .i64 m2, Value.int .i64 m3, Value.int .i64 m4, Value.int .i64 m5, Value.int .i64 m6, Value.int .i64 m7, Value.int .i64 m8, Value.bool gr, Value.bool ask] ++ b16 rt ++ [Value.slice A os.length c])).toArray, .int .i64 code, .int .i64 kind] w R := by
  have K_0 := Kp.refl w (fun _ => False)
  refine enter (args := [Value.agg (([Value.int .i64 m0, Value.int .i64 m1, Value.int .i64 m2, Value.int .i64 m3, Value.int .i64 m4, Value.int .i64 m5, Value.int .i64 m6, Value.int .i64 m7, Value.int .i64 m8, Value.bool gr, Value.bool ask] ++ b16 rt ++ [Value.slice A os.length c])).toArray, Value.int .i64 code, Value.int .i64 kind]) (n := 87) Try.func11 body11 rfl rfl rfl ?_
  intro a hE
  refine c_reg R11_0_l ?_
  refine p_cons (s_box p11_0_0 hE wn_none rfl rfl ?_)
  clear hE a; intro g1 w2 z3 B_g1 hk a hE
  replace B_g1 : w2.heap[g1]? = some (.cells (([Value.int .i64 m0, Value.int .i64 m1, Value.int .i64 m2, Value.int .i64 m3, Value.int .i64 m4, Value.int .i64 m5, Value.int .i64 m6, Value.int .i64 m7, Value.int .i64 m8, Value.bool gr, Value.bool ask] ++ b16 rt ++ [Value.slice A os.length c])).toArray 86 (0, 0)) := B_g1
  have z_0_g1 := Nat.le_trans K_0.kept.1 z3
  replace K_0 := K_0.then_ hk (fun _ h => h.elim)
  clear hk
  refine q0 p11_0_1 hE (st_assign rfl) ?_
  clear hE a; intro a hE
  refine p_nil ?_
  refine x_norm ?_
  refine c_reg R11_1_l ?_
  refine q0 p11_1_0 hE (st_build (xs := [(0, Operand.const (Value.string { data := #[100, 105, 115] })), (1, Operand.const (Value.string { data := #[100, 105, 111] })), (2, Operand.const (Value.string { data := #[100, 97, 111] })), (3, Operand.const (Value.string { data := #[97, 99, 107] }))]) (vs := [(0, (Value.string { data := #[100, 105, 115] })), (1, (Value.string { data := #[100, 105, 111] })), (2, (Value.string { data := #[100, 97, 111] })), (3, (Value.string { data := #[97, 99, 107] }))]) (cs := #[(Value.string { data := #[100, 105, 115] }), (Value.string { data := #[100, 105, 111] }), (Value.string { data := #[100, 97, 111] }), (Value.string { data := #[97, 99, 107] })]) rfl (by kernel_rfl)) ?_
  clear hE a; intro a hE
  refine p_cons (s_alloc p11_1_1 hE wn_none rfl tZ87 ?_)
  clear hE a; intro g4 w5 z6 B_g4 hk a hE
  replace B_g4 : w5.heap[g4]? = some (.cells #[Value.string ByteArray.empty, Value.string ByteArray.empty, Value.string ByteArray.empty, Value.string ByteArray.empty] 87 (0, 0)) := B_g4
  have n_g1_g4 : g1 ≠ g4 := ne_new B_g1 z6
  have z_0_g4 := Nat.le_trans K_0.kept.1 z6
  replace B_g1 := kp_blk B_g1 hk (fun h => h)
  replace K_0 := K_0.then_ hk (fun _ h => h.elim)
  clear hk
  refine p_cons (s_store (off := 0) (k := 4) (cs' := #[(Value.string { data := #[100, 105, 115] }), (Value.string { data := #[100, 105, 111] }), (Value.string { data := #[100, 97, 111] }), (Value.string { data := #[97, 99, 107] })]) p11_1_2 hE wn_none tS87 rfl rfl rfl rfl B_g4 (Nat.le_of_ble_eq_true rfl) rfl ?_)
  intro w7 B_g4' hk
  replace B_g1 := kp_blk B_g1 hk n_g1_g4
  replace K_0 := K_0.then_ hk (fun k h => by rw [show k = g4 from h]; exact Or.inr z_0_g4)
  replace B_g4 := B_g4'
  clear hk
  refine p_nil ?_
  refine x_norm ?_
  refine c_reg R11_2_l ?_
  refine q0 p11_2_0 hE (st_assign rfl) ?_
  clear hE a; intro a hE
  refine p_nil ?_
  refine x_norm ?_
  refine wp_seq ?_
  rcases Decidable.em (0 ≤ code) with hP1 | hP1
  ·
    rcases Decidable.em (code < 4) with hP2 | hP2
    ·
      obtain ⟨k, rfl⟩ : ∃ k : Nat, code = (k : Int) := ⟨code.toNat, by omega⟩
      have hk3 : k ≤ 3 := by omega
      refine c_reg R11_3_l ?_
      refine q0 p11_3_0 hE (st_move rfl) ?_
      clear hE a; intro a hE
      refine q0 p11_3_1 hE (st_geq (b := true) rfl rfl (decide_eq_true hP1)) ?_
      clear hE a; intro a hE
      refine q0 p11_3_2 hE (st_move rfl) ?_
      clear hE a; intro a hE
      refine p_cons (s_still p11_3_3 hE (wn_some g11_3_2 rfl rfl) rfl (st_move rfl) ?_)
      clear hE a; intro a hE
      refine p_cons (s_still p11_3_4 hE (wn_some g11_3_2 rfl rfl) rfl (st_lss (b := true) rfl rfl (decide_eq_true hP2)) ?_)
      clear hE a; intro a hE
      refine q0 p11_3_5 hE (st_pick rfl rfl) ?_
      clear hE a; intro a hE
      refine p_nil ?_
      refine x_norm ?_
      refine c_cond (t := true) hE rfl ?_
      refine c_regL R11_4_l ?_
      refine q0 p11_4_0 hE (st_move rfl) ?_
      clear hE a; intro a hE
      refine q0 p11_4_1 hE (st_indexAddrA (l := 4) (i := k) (o' := 0 + k) Try.underlying87 tS9 rfl rfl (by omega) (by omega)) ?_
      clear hE a; intro a hE
      refine q0 p11_4_2 hE (st_load1 tA9 rfl ((blk_cell B_g4 (0 + k)).trans (words_at k hk3))) ?_
      clear hE a; intro a hE
      refine q0 p11_4_3 hE (st_assign rfl) ?_
      clear hE a; intro a hE
      refine p_nil ?_
      refine x_norm ?_
      have hwd : cwordO (k : Int) = cword k := by unfold cwordO; rw [if_pos ⟨by omega, by omega⟩]; rfl
      exact rest m0 m1 m2 m3 m4 m5 m6 m7 m8 gr ask rt A c os (k : Int) kind w w7 g1 B_g1 z_0_g1 K_0 hF hm hmx hX hR_ a (En.sub hE ⟨rfl, rfl, rfl, rfl, by rw [hwd]; rfl, trivial⟩)
    ·
      refine c_reg R11_3_l ?_
      refine q0 p11_3_0 hE (st_move rfl) ?_
      clear hE a; intro a hE
      refine q0 p11_3_1 hE (st_geq (b := true) rfl rfl (decide_eq_true hP1)) ?_
      clear hE a; intro a hE
      refine q0 p11_3_2 hE (st_move rfl) ?_
      clear hE a; intro a hE
      refine p_cons (s_still p11_3_3 hE (wn_some g11_3_2 rfl rfl) rfl (st_move rfl) ?_)
      clear hE a; intro a hE
      refine p_cons (s_still p11_3_4 hE (wn_some g11_3_2 rfl rfl) rfl (st_lss (b := false) rfl rfl (decide_eq_false hP2)) ?_)
      clear hE a; intro a hE
      refine q0 p11_3_5 hE (st_pick rfl rfl) ?_
      clear hE a; intro a hE
      refine p_nil ?_
      refine x_norm ?_
      refine c_cond (t := false) hE rfl ?_
      refine wp_skip ?_
      refine x_norm ?_
      have hwd : cwordO code = ByteArray.empty := by unfold cwordO; rw [if_neg (by omega)]
      exact rest m0 m1 m2 m3 m4 m5 m6 m7 m8 gr ask rt A c os code kind w w7 g1 B_g1 z_0_g1 K_0 hF hm hmx hX hR_ a (En.sub hE ⟨rfl, rfl, rfl, rfl, by rw [hwd]; rfl, trivial⟩)
  ·
    refine c_reg R11_3_l ?_
    refine q0 p11_3_0 hE (st_move rfl) ?_
    clear hE a; intro a hE
    refine q0 p11_3_1 hE (st_geq (b := false) rfl rfl (decide_eq_false hP1)) ?_
    clear hE a; intro a hE
    refine q0 p11_3_2 hE (st_move rfl) ?_
    clear hE a; intro a hE
    refine p_cons (s_skip p11_3_3 hE (wn_some g11_3_2 rfl rfl) rfl ?_)
    clear hE a; intro a hE
    refine p_cons (s_skip p11_3_4 hE (wn_some g11_3_2 rfl rfl) rfl ?_)
    clear hE a; intro a hE
    refine q0 p11_3_5 hE (st_pick rfl rfl) ?_
    clear hE a; intro a hE
    refine p_nil ?_
    refine x_norm ?_
    refine c_cond (t := false) hE rfl ?_
    refine wp_skip ?_
    refine x_norm ?_
    have hwd : cwordO code = ByteArray.empty := by unfold cwordO; rw [if_neg (by omega)]
    exact rest m0 m1 m2 m3 m4 m5 m6 m7 m8 gr ask rt A c os code kind w w7 g1 B_g1 z_0_g1 K_0 hF hm hmx hX hR_ a (En.sub hE ⟨rfl, rfl, rfl, rfl, by rw [hwd]; rfl, trivial⟩)
theorem walk (l0 : List Value) (z0 : Int × Int × Int × Int × Int × Int × Int × Int × Int × Bool × Bool × (List (Int)) × (List (Int × (List (Int)) × (List (Int)) × (List (Int))))) (a1 : Int) (a2 : Int) (w : World) (w0 : Kd.K (Kd.pair (Kd.int .i64) (Kd.pair (Kd.int .i64) (Kd.pair (Kd.int .i64) (Kd.pair (Kd.int .i64) (Kd.pair (Kd.int .i64) (Kd.pair (Kd.int .i64) (Kd.pair (Kd.int .i64) (Kd.pair (Kd.int .i64) (Kd.pair (Kd.int .i64) (Kd.pair Kd.bool (Kd.pair Kd.bool (Kd.pair (Kd.arr 16 (Kd.int .u8) (by decide)) (Kd.slice 80 (Kd.pair (Kd.int .i64) (Kd.pair (Kd.slice 3 (Kd.int .i64)) (Kd.pair (Kd.arr 16 (Kd.int .u8) (by decide)) (Kd.slice 5 (Kd.int .u8)))))))))))))))))) w z0 l0) (o0 : ((Lit.int .i64 z0.1).wf = true ∧ ((Lit.int .i64 z0.2.1).wf = true ∧ ((Lit.int .i64 z0.2.2.1).wf = true ∧ ((Lit.int .i64 z0.2.2.2.1).wf = true ∧ ((Lit.int .i64 z0.2.2.2.2.1).wf = true ∧ ((Lit.int .i64 z0.2.2.2.2.2.1).wf = true ∧ ((Lit.int .i64 z0.2.2.2.2.2.2.1).wf = true ∧ ((Lit.int .i64 z0.2.2.2.2.2.2.2.1).wf = true ∧ ((Lit.int .i64 z0.2.2.2.2.2.2.2.2.1).wf = true ∧ (True ∧ (True ∧ ((z0.2.2.2.2.2.2.2.2.2.2.2.1.length = 16 ∧ ∀ x0 ∈ z0.2.2.2.2.2.2.2.2.2.2.2.1, (Lit.int .u8 x0).wf = true) ∧ ((z0.2.2.2.2.2.2.2.2.2.2.2.2.length ≤ maxLen ∧ ∀ x0 ∈ z0.2.2.2.2.2.2.2.2.2.2.2.2, ((Lit.int .i64 x0.1).wf = true ∧ ((x0.2.1.length ≤ maxLen ∧ ∀ x1 ∈ x0.2.1, (Lit.int .i64 x1).wf = true) ∧ ((x0.2.2.1.length = 16 ∧ ∀ x1 ∈ x0.2.2.1, (Lit.int .u8 x1).wf = true) ∧ ((x0.2.2.2.length ≤ maxLen ∧ ∀ x1 ∈ x0.2.2.2, (Lit.int .u8 x1).wf = true)))))))))))))))))))) (w1 : (Lit.int .i64 a1).wf = true) (w2 : (Lit.int .i64 a2).wf = true) :
    Calls Try.prog 11 #[.agg ⟨l0⟩, .int .i64 a1, .int .i64 a2] w fun e w' => e = .returned (.bool true) ∧ Below w.heap.size w w' := by
  obtain ⟨m0, m1, m2, m3, m4, m5, m6, m7, m8, gr, ask, l, os⟩ := z0
  obtain ⟨A, n', rfl, hl, hC⟩ := msg_open w0
  exact law_R m0 m1 m2 m3 m4 m5 m6 m7 m8 gr ask (fun j => l.getD j 0) A n' os a1 a2 w hC hl o0.2.2.2.2.2.2.2.2.2.2.2.2.1 (toL_ok o0.2.2.2.2.2.2.2.2.2.2.2.2) (fun w' hk => ⟨rfl, hk.to (Nat.le_refl _) (fun _ h => h.elim)⟩)
end Go.Proofs.Ytndiddfleidnaaa.CT
