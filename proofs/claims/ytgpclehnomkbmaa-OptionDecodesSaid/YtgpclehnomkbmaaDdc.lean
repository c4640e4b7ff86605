/- The document's options: all of bytes are read. -/
import Derived.Test.YtgpclehnomkbmaaDob
set_option maxRecDepth 100000
set_option linter.unusedVariables false
set_option linter.unusedSimpArgs false
namespace Go.Proofs.Ytgpclehnomkbmaa.Dd
open Go.RowKit Go.Proofs.YtgpclehnomkbmaaW.PrintWords Go.Proofs.Ytgpclehnomkbmaa.Ds Go.Proofs.Ytgpclehnomkbmaa.Op Go.Proofs.Ytgpclehnomkbmaa.Oc Go.Proofs.Ytgpclehnomkbmaa.Or Go.Proofs.Ytgpclehnomkbmaa.Ow Go.Proofs.Ytgpclehnomkbmaa.Ob Go.Proofs.Ytgpclehnomkbmaa.Oe Go.Proofs.Ytgpclehnomkbmaa.Opd Go.Proofs.Ytgpclehnomkbmaa.Orf Go.Proofs.Ytgpclehnomkbmaa.Ork Go.Proofs.Ytgpclehnomkbmaa.Db
open Go.Proofs.Ytgpclehnomkbmaa.Pk (Kp fitsF spanF putF digF fits_any put_ok C_take)
open Go.Proofs.Ytgpclehnomkbmaa.Cu (joinF isB C_cut C_take9)
theorem rbody_n (A : Option Addr) (c nn : Nat) (d : List Int) (k : Nat) (hk9 : k ≤ 9) (hk1 : 1 ≤ k) (hnn : nn = d.length) (w : World) (hl : d.length ≤ 1000) (hc : d.length ≤ c) (hc2 : c ≤ 9223372036854775807) (hb : isB d) (F_A : ∀ W', Kp w W' (fun _ => False) → Kd.C (Kd.int .u8) W' A nn d) : Calls Try.prog 54 #[.int .i64 (k : Int), .slice A nn c] w fun e w' => ∃ B q T ct, ∃ x : OV, e = .returned (.tuple #[Value.agg (([Value.int .i64 x.1, Value.slice B x.2.1.length q] ++ b16 (adr x) ++ [Value.slice T x.2.2.2.length ct])).toArray, .bool (okD k d)]) ∧ x.2.1.length ≤ q ∧ x.2.2.2.length ≤ ct ∧ (∀ W', Kp w' W' (fun k => k < w.heap.size) → Kd.C (Kd.int .i64) W' B x.2.1.length x.2.1) ∧ (∀ W', Kd.C (Kd.int .u8) W' A d.length d → Kd.C (Kd.int .u8) W' T x.2.2.2.length x.2.2.2) ∧ (okD k d = true → x = mkO k d) ∧ Kp w w' (fun _ => False) := by
 subst hnn; exact rbody_c A c d k hk9 hk1 w hl hc hc2 hb F_A
theorem rcheck_x (x : OV) (B T : Option Addr) (cb ct : Nat) (hly : ∀ i : Int, rd x.2.1 i ≤ 9223372036854775807) (w : World) (F_B : ∀ W', Kp w W' (fun _ => False) → Kd.C (Kd.int .i64) W' B x.2.1.length x.2.1) : Calls Try.prog 20 #[Value.agg (([Value.int .i64 x.1, Value.slice B x.2.1.length cb] ++ b16 (adr x) ++ [Value.slice T x.2.2.2.length ct])).toArray] w fun e w' => e = .returned (.int .i64 (chkV x)) ∧ Kp w w' (fun _ => False) :=
 rcheck_any x.1 B T x.2.1.length cb x.2.2.2.length ct x.2.1 hly (adr x) w F_B
theorem rd_top {l : List Int} (h : ∀ y ∈ l, y ≤ 9223372036854775807) (i : Int) : rd l i ≤ 9223372036854775807 := by
 by_cases hi : i.toNat < l.length
 ·
  have : rd l i = l[i.toNat] := by simp [rd, rdOf, List.getD_eq_getElem?_getD, hi]
  rw [this]; exact h _ (List.getElem_mem hi)
 ·
  have : rd l i = 0 := by simp [rd, rdOf, List.getD_eq_getElem?_getD, List.getElem?_eq_none (Nat.le_of_not_lt hi)]
  rw [this]; decide
theorem mkO_top {k : Nat} {d : List Int} (hk : k ≤ 9) (hb : isB d) (hl : d.length ≤ 1000) (i : Int) : rd (mkO k d).2.1 i ≤ 9223372036854775807 := by
 refine rd_top (fun y hy => ?_) i
 unfold mkO at hy
 split at hy
 ·
  have hy : y ∈ [(d.length : Int)] := hy
  rw [List.mem_singleton] at hy; omega
 ·
  split at hy
  ·
   have hy : y ∈ ([] : List Int) := hy
   cases hy
  ·
   have hy : y ∈ numsO k d (sizesF k).length := hy
   unfold numsO at hy
   obtain ⟨j, hj, rfl⟩ := List.mem_map.1 hy
   have hj2 := List.mem_range.1 hj
   have hs := sizes_fits hk hj2
   unfold numAt
   have := Go.Proofs.Ytgpclehnomkbmaa.Cu.join_bd ((d.drop (offO k j)).take (rd (sizesF k) (j : Int)).toNat) (isB_take (isB_drop hb _) _) (by rw [List.length_take]; omega)
   omega
theorem next_full {b : List Int} {k n : Nat} (hk : rd b (0 : Int) = (k : Int)) (h1 : 1 ≤ k) (h9 : k ≤ 9) (h2 : 2 ≤ b.length) (hn : rd b (1 : Int) = (n : Int)) (hl : n + 2 ≤ b.length) : nextO b = if okD k ((b.drop 2).take n) = false then (3, zO, 0) else (chkV (mkO k ((b.drop 2).take n)), mkO k ((b.drop 2).take n), 2 + n) := by
 unfold nextO
 rw [hk, hn, if_neg (by omega), if_neg (by omega), if_neg (by omega), Int.toNat_natCast, Int.toNat_natCast]
theorem next_short {b : List Int} {k : Nat} (hk : rd b (0 : Int) = (k : Int)) (h1 : 1 ≤ k) (h9 : k ≤ 9) (h : b.length < 2 ∨ (b.length : Int) - 2 < rd b (1 : Int)) : (nextO b).1 = 4 := by
 unfold nextO
 rw [hk, if_neg (by omega), if_neg (by omega), if_pos h]
theorem next_big {b : List Int} (h : 9 < rd b (0 : Int)) : (nextO b).1 = 6 := by unfold nextO; rw [if_pos h]
theorem next_nil {b : List Int} (h : rd b (0 : Int) = 0) : nextO b = (0, (0, [], l16 (fun _ => 0), []), 1) := by unfold nextO; rw [if_neg (by omega), if_pos h]
theorem mkO_fine (k : Nat) (d : List Int) : ((mkO k d).1, (mkO k d).2.1, l16 (adr (mkO k d)), (mkO k d).2.2.2) = mkO k d := by
 have key : l16 (adr (mkO k d)) = (mkO k d).2.2.1 := by
  unfold mkO
  split
  · rfl
  ·
   split
   · rfl
   · exact l16_adr _
 rw [key]
theorem R10_0_l : List.range (regOf Try.f10 0).size = [0, 1] := by kernel_rfl
theorem R10_1_l : List.range (regOf Try.f10 1).size = [0] := by kernel_rfl
theorem R10_2_l : List.range (regOf Try.f10 2).size = [0, 1, 2] := by kernel_rfl
theorem R10_3_l : List.range (regOf Try.f10 3).size = [0, 1, 2] := by kernel_rfl
theorem R10_4_l : List.range (regOf Try.f10 4).size = [0, 1] := by kernel_rfl
theorem R10_5_l : List.range (regOf Try.f10 5).size = [0, 1, 2, 3, 4] := by kernel_rfl
theorem R10_6_l : List.range (regOf Try.f10 6).size = [0, 1, 2] := by kernel_rfl
theorem R10_7_l : List.range (regOf Try.f10 7).size = [0, 1] := by kernel_rfl
theorem R10_8_l : List.range (regOf Try.f10 8).size = [0, 1] := by kernel_rfl
theorem R10_9_l : List.range (regOf Try.f10 9).size = [0, 1, 2, 3, 4] := by kernel_rfl
theorem R10_10_l : List.range (regOf Try.f10 10).size = [0, 1, 2] := by kernel_rfl
theorem R10_11_l : List.range (regOf Try.f10 11).size = [0, 1, 2, 3, 4, 5, 6, 7, 8, 9, 10, 11, 12] := by kernel_rfl
theorem R10_12_l : List.range (regOf Try.f10 12).size = [0, 1] := by kernel_rfl
theorem R10_13_l : List.range (regOf Try.f10 13).size = [0, 1, 2, 3, 4] := by kernel_rfl
theorem R10_14_l : List.range (regOf Try.f10 14).size = [0, 1, 2, 3, 4, 5, 6, 7, 8, 9, 10, 11] := by kernel_rfl
theorem R10_15_l : List.range (regOf Try.f10 15).size = [0, 1] := by kernel_rfl
theorem R10_16_l : List.range (regOf Try.f10 16).size = [0, 1] := by kernel_rfl
theorem R10_17_l : List.range (regOf Try.f10 17).size = [0, 1, 2] := by kernel_rfl
theorem R10_18_l : List.range (regOf Try.f10 18).size = [0, 1] := by kernel_rfl
theorem R10_19_l : List.range (regOf Try.f10 19).size = [0, 1, 2] := by kernel_rfl
theorem R10_20_l : List.range (regOf Try.f10 20).size = [0, 1, 2, 3, 4] := by kernel_rfl
theorem R10_21_l : List.range (regOf Try.f10 21).size = [0, 1, 2, 3, 4] := by kernel_rfl
theorem R10_22_l : List.range (regOf Try.f10 22).size = [0, 1, 2] := by kernel_rfl
theorem body10 : Try.f10.body = some (.seq (.region 0 (regOf Try.f10 0) false) (.seq (.region 1 (regOf Try.f10 1) false) (.seq (.block 0 (.loop (.seq (.seq (.region 2 (regOf Try.f10 2) false) (.cond (Operand.tmp 12) (.skip) (.exit 0))) (.block 1 (.seq (.seq (.region 3 (regOf Try.f10 3) false) (.cond (Operand.tmp 15) (.seq (.region 4 (regOf Try.f10 4) false) (.ret)) (.skip))) (.seq (.region 5 (regOf Try.f10 5) false) (.seq (.seq (.region 6 (regOf Try.f10 6) false) (.cond (Operand.tmp 22) (.seq (.region 7 (regOf Try.f10 7) false) (.ret)) (.skip))) (.seq (.seq (.region 8 (regOf Try.f10 8) false) (.cond (Operand.tmp 24) (.seq (.region 9 (regOf Try.f10 9) false) (.seq (.region 10 (regOf Try.f10 10) false) (.exit 1))) (.skip))) (.seq (.seq (.region 11 (regOf Try.f10 11) false) (.cond (Operand.tmp 43) (.seq (.region 12 (regOf Try.f10 12) false) (.ret)) (.skip))) (.seq (.region 13 (regOf Try.f10 13) false) (.seq (.region 14 (regOf Try.f10 14) false) (.seq (.seq (.region 15 (regOf Try.f10 15) false) (.cond (Operand.tmp 58) (.seq (.region 16 (regOf Try.f10 16) false) (.ret)) (.skip))) (.seq (.region 17 (regOf Try.f10 17) false) (.seq (.seq (.region 18 (regOf Try.f10 18) false) (.cond (Operand.tmp 62) (.seq (.region 19 (regOf Try.f10 19) false) (.ret)) (.skip))) (.seq (.region 20 (regOf Try.f10 20) false) (.region 21 (regOf Try.f10 21) false)))))))))))))))) (.seq (.region 22 (regOf Try.f10 22) false) (.ret))))) := by kernel_rfl
theorem p10_0_0 : pj (regOf Try.f10 0) 0 = some (some 2, .assign (.const (.slice none 0 0)), 27, none) := by kernel_rfl
theorem p10_0_1 : pj (regOf Try.f10 0) 1 = some (some 3, .assign (.const (.int .i64 0)), 3, none) := by kernel_rfl
theorem p10_1_0 : pj (regOf Try.f10 1) 0 = some (some 4, .assign (.const (.slice none 0 0)), 27, none) := by kernel_rfl
theorem p10_2_0 : pj (regOf Try.f10 2) 0 = some (some 10, .move (.tmp 0), 22, none) := by kernel_rfl
theorem p10_2_1 : pj (regOf Try.f10 2) 1 = some (some 11, .call { callee := .builtin .len, args := #[.tmp 10], argTypes := #[22] }, 3, none) := by kernel_rfl
theorem p10_2_2 : pj (regOf Try.f10 2) 2 = some (some 12, .binOp .gtr 3 (.tmp 11) (.const (.int .i64 0)) 3, 4, none) := by kernel_rfl
theorem p10_3_0 : pj (regOf Try.f10 3) 0 = some (some 13, .move (.tmp 4), 27, none) := by kernel_rfl
theorem p10_3_1 : pj (regOf Try.f10 3) 1 = some (some 14, .call { callee := .builtin .len, args := #[.tmp 13], argTypes := #[27] }, 3, none) := by kernel_rfl
theorem p10_3_2 : pj (regOf Try.f10 3) 2 = some (some 15, .binOp .eql 3 (.tmp 14) (.const (.int .i64 16)) 3, 4, none) := by kernel_rfl
theorem p10_4_0 : pj (regOf Try.f10 4) 0 = some (some 2, .assign (.const (.slice none 0 0)), 27, none) := by kernel_rfl
theorem p10_4_1 : pj (regOf Try.f10 4) 1 = some (some 3, .assign (.const (.int .i64 2)), 3, none) := by kernel_rfl
theorem p10_5_0 : pj (regOf Try.f10 5) 0 = some (some 16, .move (.tmp 0), 22, none) := by kernel_rfl
theorem p10_5_1 : pj (regOf Try.f10 5) 1 = some (some 17, .indexAddr 22 (.tmp 16) (.const (.int .i64 0)), 0, none) := by kernel_rfl
theorem tS5 : (Try.prog.info? 5).map (·.size) = some 1 := by kernel_rfl
theorem p10_5_2 : pj (regOf Try.f10 5) 2 = some (some 18, .load 5 (.tmp 17), 5, none) := by kernel_rfl
theorem tA5 : (Try.prog.underlying 5).map aggD = some false := by kernel_rfl
theorem p10_5_3 : pj (regOf Try.f10 5) 3 = some (some 19, .convert 5 3 (.tmp 18), 3, none) := by kernel_rfl
theorem p10_5_4 : pj (regOf Try.f10 5) 4 = some (some 5, .assign (.tmp 19), 3, none) := by kernel_rfl
theorem p10_6_0 : pj (regOf Try.f10 6) 0 = some (some 20, .move (.tmp 5), 3, none) := by kernel_rfl
theorem p10_6_1 : pj (regOf Try.f10 6) 1 = some (some 21, .call { callee := .value (.func 53), args := #[.tmp 20], argTypes := #[3] }, 9, none) := by kernel_rfl
theorem cl53 : callable Try.f53 = true := by kernel_rfl
theorem p10_6_2 : pj (regOf Try.f10 6) 2 = some (some 22, .binOp .eql 9 (.tmp 21) (.const (.string { data := #[63] })) 9, 4, none) := by kernel_rfl
theorem p10_8_0 : pj (regOf Try.f10 8) 0 = some (some 23, .move (.tmp 5), 3, none) := by kernel_rfl
theorem p10_8_1 : pj (regOf Try.f10 8) 1 = some (some 24, .binOp .eql 3 (.tmp 23) (.const (.int .i64 0)) 3, 4, none) := by kernel_rfl
theorem p10_9_0 : pj (regOf Try.f10 9) 0 = some (some 25, .move (.tmp 4), 27, none) := by kernel_rfl
theorem p10_9_1 : pj (regOf Try.f10 9) 1 = some (some 26, .build 45 #[], 45, none) := by kernel_rfl
theorem p10_9_2 : pj (regOf Try.f10 9) 2 = some (some 27, .buildSlice 27 1 #[(0, .tmp 26)], 27, none) := by kernel_rfl
theorem p10_9_3 : pj (regOf Try.f10 9) 3 = some (some 28, .call { callee := .builtin .append, args := #[.tmp 25, .tmp 27], argTypes := #[27, 27] }, 27, none) := by kernel_rfl
theorem eD45 : elemD Try.prog 45 = some (19, 19, 72) := by kernel_rfl
theorem p10_9_4 : pj (regOf Try.f10 9) 4 = some (some 4, .assign (.tmp 28), 27, none) := by kernel_rfl
theorem p10_10_0 : pj (regOf Try.f10 10) 0 = some (some 29, .move (.tmp 0), 22, none) := by kernel_rfl
theorem p10_10_1 : pj (regOf Try.f10 10) 1 = some (some 30, .slice 22 (.tmp 29) (some (.const (.int .i64 1))) none none, 22, none) := by kernel_rfl
theorem p10_10_2 : pj (regOf Try.f10 10) 2 = some (some 0, .assign (.tmp 30), 22, none) := by kernel_rfl
theorem p10_11_0 : pj (regOf Try.f10 11) 0 = some (some 31, .move (.tmp 0), 22, none) := by kernel_rfl
theorem p10_11_1 : pj (regOf Try.f10 11) 1 = some (some 32, .call { callee := .builtin .len, args := #[.tmp 31], argTypes := #[22] }, 3, none) := by kernel_rfl
theorem p10_11_2 : pj (regOf Try.f10 11) 2 = some (some 33, .binOp .lss 3 (.tmp 32) (.const (.int .i64 2)) 3, 4, none) := by kernel_rfl
theorem p10_11_3 : pj (regOf Try.f10 11) 3 = some (some 34, .move (.tmp 33), 4, none) := by kernel_rfl
theorem p10_11_4 : pj (regOf Try.f10 11) 4 = some (some 35, .move (.tmp 0), 22, some (3, false)) := by kernel_rfl
theorem g10_11_3 : dstOf (regOf Try.f10 11) 3 = some 34 := by kernel_rfl
theorem p10_11_5 : pj (regOf Try.f10 11) 5 = some (some 36, .call { callee := .builtin .len, args := #[.tmp 35], argTypes := #[22] }, 3, some (3, false)) := by kernel_rfl
theorem p10_11_6 : pj (regOf Try.f10 11) 6 = some (some 37, .binOp .sub 3 (.tmp 36) (.const (.int .i64 2)) 3, 3, some (3, false)) := by kernel_rfl
theorem p10_11_7 : pj (regOf Try.f10 11) 7 = some (some 38, .move (.tmp 0), 22, some (3, false)) := by kernel_rfl
theorem p10_11_8 : pj (regOf Try.f10 11) 8 = some (some 39, .indexAddr 22 (.tmp 38) (.const (.int .i64 1)), 0, some (3, false)) := by kernel_rfl
theorem p10_11_9 : pj (regOf Try.f10 11) 9 = some (some 40, .load 5 (.tmp 39), 5, some (3, false)) := by kernel_rfl
theorem p10_11_10 : pj (regOf Try.f10 11) 10 = some (some 41, .convert 5 3 (.tmp 40), 3, some (3, false)) := by kernel_rfl
theorem p10_11_11 : pj (regOf Try.f10 11) 11 = some (some 42, .binOp .lss 3 (.tmp 37) (.tmp 41) 3, 4, some (3, false)) := by kernel_rfl
theorem p10_11_12 : pj (regOf Try.f10 11) 12 = some (some 43, .pick (.tmp 34) (.const (.bool true)) (.tmp 42), 4, none) := by kernel_rfl
theorem p10_12_0 : pj (regOf Try.f10 12) 0 = some (some 2, .assign (.const (.slice none 0 0)), 27, none) := by kernel_rfl
theorem p10_12_1 : pj (regOf Try.f10 12) 1 = some (some 3, .assign (.const (.int .i64 4)), 3, none) := by kernel_rfl
theorem p10_13_0 : pj (regOf Try.f10 13) 0 = some (some 44, .move (.tmp 0), 22, none) := by kernel_rfl
theorem p10_13_1 : pj (regOf Try.f10 13) 1 = some (some 45, .indexAddr 22 (.tmp 44) (.const (.int .i64 1)), 0, none) := by kernel_rfl
theorem p10_13_2 : pj (regOf Try.f10 13) 2 = some (some 46, .load 5 (.tmp 45), 5, none) := by kernel_rfl
theorem p10_13_3 : pj (regOf Try.f10 13) 3 = some (some 47, .convert 5 3 (.tmp 46), 3, none) := by kernel_rfl
theorem p10_13_4 : pj (regOf Try.f10 13) 4 = some (some 6, .assign (.tmp 47), 3, none) := by kernel_rfl
theorem p10_14_0 : pj (regOf Try.f10 14) 0 = some (some 49, .move (.tmp 5), 3, none) := by kernel_rfl
theorem p10_14_1 : pj (regOf Try.f10 14) 1 = some (some 50, .move (.tmp 0), 22, none) := by kernel_rfl
theorem p10_14_2 : pj (regOf Try.f10 14) 2 = some (some 51, .move (.tmp 6), 3, none) := by kernel_rfl
theorem p10_14_3 : pj (regOf Try.f10 14) 3 = some (some 52, .binOp .add 3 (.const (.int .i64 2)) (.tmp 51) 3, 3, none) := by kernel_rfl
theorem p10_14_4 : pj (regOf Try.f10 14) 4 = some (some 53, .slice 22 (.tmp 50) (some (.const (.int .i64 2))) (some (.tmp 52)) none, 22, none) := by kernel_rfl
theorem p10_14_5 : pj (regOf Try.f10 14) 5 = some (some 54, .call { callee := .value (.func 54), args := #[.tmp 49, .tmp 53], argTypes := #[3, 22] }, 111, none) := by kernel_rfl
theorem cl54 : callable Try.f54 = true := by kernel_rfl
theorem p10_14_6 : pj (regOf Try.f10 14) 6 = some (some 48, .move (.tmp 54), 111, none) := by kernel_rfl
theorem p10_14_7 : pj (regOf Try.f10 14) 7 = some (some 55, .extract (.tmp 48) 0, 45, none) := by kernel_rfl
theorem p10_14_8 : pj (regOf Try.f10 14) 8 = some (some 56, .extract (.tmp 48) 1, 4, none) := by kernel_rfl
theorem p10_14_9 : pj (regOf Try.f10 14) 9 = some (some 7, .alloc 45, 0, none) := by kernel_rfl
theorem tZ45 : (Try.prog.info? 45).bind (·.zero) = some (Value.agg (([Value.int .i64 0, Value.slice none 0 0] ++ b16 (fun _ => 0) ++ [Value.slice none 0 0])).toArray) := by kernel_rfl
theorem p10_14_10 : pj (regOf Try.f10 14) 10 = some (none, .store 45 (.tmp 7) (.tmp 55), 0, none) := by kernel_rfl
theorem tS45 : (Try.prog.info? 45).map (·.size) = some 19 := by kernel_rfl
theorem p10_14_11 : pj (regOf Try.f10 14) 11 = some (some 8, .assign (.tmp 56), 4, none) := by kernel_rfl
theorem p10_15_0 : pj (regOf Try.f10 15) 0 = some (some 57, .move (.tmp 8), 4, none) := by kernel_rfl
theorem p10_15_1 : pj (regOf Try.f10 15) 1 = some (some 58, .unOp .not 4 (.tmp 57), 4, none) := by kernel_rfl
theorem p10_17_0 : pj (regOf Try.f10 17) 0 = some (some 59, .load 45 (.tmp 7), 45, none) := by kernel_rfl
theorem tA45 : (Try.prog.underlying 45).map aggD = some true := by kernel_rfl
theorem p10_17_1 : pj (regOf Try.f10 17) 1 = some (some 60, .call { callee := .value (.func 20), args := #[.tmp 59], argTypes := #[45] }, 3, none) := by kernel_rfl
theorem cl20 : callable Try.f20 = true := by kernel_rfl
theorem p10_17_2 : pj (regOf Try.f10 17) 2 = some (some 9, .assign (.tmp 60), 3, none) := by kernel_rfl
theorem p10_18_0 : pj (regOf Try.f10 18) 0 = some (some 61, .move (.tmp 9), 3, none) := by kernel_rfl
theorem p10_18_1 : pj (regOf Try.f10 18) 1 = some (some 62, .binOp .neq 3 (.tmp 61) (.const (.int .i64 0)) 3, 4, none) := by kernel_rfl
theorem p10_20_0 : pj (regOf Try.f10 20) 0 = some (some 64, .move (.tmp 4), 27, none) := by kernel_rfl
theorem p10_20_1 : pj (regOf Try.f10 20) 1 = some (some 65, .load 45 (.tmp 7), 45, none) := by kernel_rfl
theorem p10_20_2 : pj (regOf Try.f10 20) 2 = some (some 66, .buildSlice 27 1 #[(0, .tmp 65)], 27, none) := by kernel_rfl
theorem p10_20_3 : pj (regOf Try.f10 20) 3 = some (some 67, .call { callee := .builtin .append, args := #[.tmp 64, .tmp 66], argTypes := #[27, 27] }, 27, none) := by kernel_rfl
theorem p10_20_4 : pj (regOf Try.f10 20) 4 = some (some 4, .assign (.tmp 67), 27, none) := by kernel_rfl
theorem p10_21_0 : pj (regOf Try.f10 21) 0 = some (some 68, .move (.tmp 0), 22, none) := by kernel_rfl
theorem p10_21_1 : pj (regOf Try.f10 21) 1 = some (some 69, .move (.tmp 6), 3, none) := by kernel_rfl
theorem p10_21_2 : pj (regOf Try.f10 21) 2 = some (some 70, .binOp .add 3 (.const (.int .i64 2)) (.tmp 69) 3, 3, none) := by kernel_rfl
theorem p10_21_3 : pj (regOf Try.f10 21) 3 = some (some 71, .slice 22 (.tmp 68) (some (.tmp 70)) none none, 22, none) := by kernel_rfl
theorem p10_21_4 : pj (regOf Try.f10 21) 4 = some (some 0, .assign (.tmp 71), 22, none) := by kernel_rfl
theorem p10_19_0 : pj (regOf Try.f10 19) 0 = some (some 63, .move (.tmp 9), 3, none) := by kernel_rfl
theorem p10_19_1 : pj (regOf Try.f10 19) 1 = some (some 2, .assign (.const (.slice none 0 0)), 27, none) := by kernel_rfl
theorem p10_19_2 : pj (regOf Try.f10 19) 2 = some (some 3, .assign (.tmp 63), 3, none) := by kernel_rfl
theorem p10_16_0 : pj (regOf Try.f10 16) 0 = some (some 2, .assign (.const (.slice none 0 0)), 27, none) := by kernel_rfl
theorem p10_16_1 : pj (regOf Try.f10 16) 1 = some (some 3, .assign (.const (.int .i64 3)), 3, none) := by kernel_rfl
theorem p10_7_0 : pj (regOf Try.f10 7) 0 = some (some 2, .assign (.const (.slice none 0 0)), 27, none) := by kernel_rfl
theorem p10_7_1 : pj (regOf Try.f10 7) 1 = some (some 3, .assign (.const (.int .i64 6)), 3, none) := by kernel_rfl
theorem p10_22_0 : pj (regOf Try.f10 22) 0 = some (some 72, .move (.tmp 4), 27, none) := by kernel_rfl
theorem p10_22_1 : pj (regOf Try.f10 22) 1 = some (some 2, .assign (.tmp 72), 27, none) := by kernel_rfl
theorem p10_22_2 : pj (regOf Try.f10 22) 2 = some (some 3, .assign (.const (.int .i64 0)), 3, none) := by kernel_rfl
set_option maxHeartbeats 4000000 in
theorem rdec_any (A : Option Addr) (c : Nat) (l : List Int) (w : World) (hl : l.length ≤ 1000000) (hc : l.length ≤ c) (hc2 : c ≤ 9223372036854775807) (hb : isB l) (F_A : ∀ W', Kp w W' (fun _ => False) → Kd.C (Kd.int .u8) W' A l.length l) : Calls Try.prog 10 #[.slice A l.length c] w fun e w' => ∃ A' c', e = .returned (.tuple #[.slice A' (decO l).length c', .int .i64 (decE l)]) ∧ (decO l).length ≤ c' ∧ (∀ W', Kp w' W' (fun _ => False) → Kd.C dO W' A' (decO l).length (decO l)) ∧ Kp w w' (fun _ => False) := by
 have K_0 := Kp.refl w (fun _ => False)
 refine enter (args := [Value.slice A l.length c]) (n := 73) Try.func10 body10 rfl rfl rfl ?_
 intro a hE
 refine c_reg R10_0_l ?_
 refine q0 p10_0_0 hE (st_assign rfl) ?_; clear hE a; intro a hE
 refine q0 p10_0_1 hE (st_assign rfl) ?_; clear hE a; intro a hE
 refine p_nil (x_norm (c_reg R10_1_l ?_))
 refine q0 p10_1_0 hE (st_assign rfl) ?_; clear hE a; intro a hE
 refine p_nil (x_norm (wp_seq (wp_block ?_)))
 have O_out := own_none w w.heap.size 45 19
 have Z_0_out : ∀ k, OB none k → (fun _ => False) k ∨ w.heap.size ≤ k := fun k h => absurd h ob_nil
 refine c_loop (α := Nat) (fun j a W => ∃ (A_out : Option Addr) (c_out : Nat) (n_out : Nat), ∃ (zs : List Value), ∃ (xs : List OV), ∃ (p : Nat), ∃ (Ab : Option Addr), ∃ (nb : Nat), ∃ (cb : Nat), En 73 a [(0, Value.slice Ab nb cb), (4, Value.slice A_out n_out c_out)] ∧ j ≤ 16 ∧ xs.length = j ∧ n_out = j ∧ (p ≤ l.length ∧ nb = l.length - p) ∧ nb ≤ cb ∧ cb ≤ 9223372036854775807 ∧ (∀ W', Kd.C (Kd.int .u8) W' A l.length l → Kd.C (Kd.int .u8) W' Ab nb (l.drop p)) ∧ upto l (16 - j) xs (l.drop p) ∧ (∀ W', Kp w W' (fun _ => False) → Kp W W' (fun k => OB A_out k) → Reps (Kd.K dO W') 19 xs zs) ∧ W.ownsRow w.heap.size 45 19 (.slice A_out n_out c_out) n_out zs ∧ (∀ k, OB A_out k → (fun _ => False) k ∨ w.heap.size ≤ k) ∧ Kp w W (fun _ => False)) (fun j => 17 - j) (0) ?_ ?_
 ·
  exact ⟨none, 0, 0, [], [], 0, A, l.length, c, En.sub hE ⟨rfl, rfl, trivial⟩, Nat.zero_le _, rfl, rfl, ⟨Nat.zero_le _, rfl⟩, hc, hc2, (fun W' h => h), (upto_start l), (fun W' hkz hk => Reps.none _ _), O_out, Z_0_out, K_0⟩
 ·
  clear hE a
  rintro j a w1 ⟨A_out, c_out, n_out, zs, xs, p, Ab, nb, cb, hE, hj9, hxs, hn_out, hpl, hncb, hcb2, hrow, hup, F_out, O_out, Z_0_out, K_0⟩
  refine wp_seq (c_reg R10_2_l ?_)
  have K_s2 := Kp.refl w1 (fun k => OB A_out k)
  have Z_s2_out : ∀ k, OB A_out k → (fun k => OB A_out k) k ∨ w1.heap.size ≤ k := fun k h => .inl h
  have hlo9 : ∀ k, OB A_out k → k < w1.heap.size := fun k h => (own_ob O_out h).2
  refine q0 p10_2_0 hE (st_move rfl) ?_; clear hE a; intro a hE
  refine q0 p10_2_1 hE (st_len Try.underlying22 rfl) ?_; clear hE a; intro a hE
  rcases Decidable.em (0 < (nb : Int)) with hc3 | hc3
  ·
   refine p_cons (s_still (v := Value.bool true) p10_2_2 hE wn_none rfl (st_gtr rfl rfl (decide_eq_true hc3)) ?_); clear hE a; intro a hE
   refine p_nil (x_norm ?_)
   refine c_cond (t := true) hE rfl ?_
   refine wp_skip (x_norm (wp_block (wp_seq (c_reg R10_3_l ?_))))
   refine q0 p10_3_0 hE (st_move rfl) ?_; clear hE a; intro a hE
   refine q0 p10_3_1 hE (st_len Try.underlying27 rfl) ?_; clear hE a; intro a hE
   rcases Decidable.em ((n_out : Int) = 16) with hc4 | hc4
   ·
    refine p_cons (s_still (v := Value.bool true) p10_3_2 hE wn_none rfl (st_eql rfl rfl (decide_eq_true hc4)) ?_); clear hE a; intro a hE
    refine p_nil (x_norm ?_)
    refine c_cond (t := true) hE rfl ?_
    refine c_reg R10_4_l ?_
    refine q0 p10_4_0 hE (st_assign rfl) ?_; clear hE a; intro a hE
    refine q0 p10_4_1 hE (st_assign rfl) ?_; clear hE a; intro a hE
    refine p_nil (x_norm (wp_ret (x_ret (x_retB (x_ret (x_retB (x_ret ?_)))))))
    refine ret_list (rs := [.tmp 2, .tmp 3]) (vs := [Value.slice none 0 0, Value.int .i64 2]) rfl hE (.tmp rfl (.tmp rfl .nil)) rfl ?_
    have hE9 : decE l = 2 := upto_full (by rw [show 16 - j = 0 by omega] at hup; exact hup) (fun h => by have := congrArg List.length h; rw [List.length_drop] at this; simp at this; omega)
    have hO9 := decO_bad (by rw [hE9]; decide)
    exact ⟨none, 0, by rw [hE9, hO9]; rfl, by rw [hO9]; exact Nat.le_refl _, fun W' hk => by rw [hO9]; exact Kd.C_nil _ _, K_0⟩
   ·
    refine p_cons (s_still (v := Value.bool false) p10_3_2 hE wn_none rfl (st_eql rfl rfl (decide_eq_false hc4)) ?_); clear hE a; intro a hE
    refine p_nil (x_norm ?_)
    refine c_cond (t := false) hE rfl ?_
    refine wp_skip (x_norm (c_reg R10_5_l ?_))
    have hne9 : l.drop p ≠ [] := fun h => by have := congrArg List.length h; rw [List.length_drop] at this; simp at this; omega
    have hlb9 : (l.drop p).length = nb := by rw [List.length_drop]; omega
    have hk0b : 0 ≤ rd (l.drop p) (0 : Int) ∧ rd (l.drop p) (0 : Int) ≤ 255 := rd_isB (isB_drop hb p) (j := 0) (by omega)
    have hk1b : 1 < nb → 0 ≤ rd (l.drop p) (1 : Int) ∧ rd (l.drop p) (1 : Int) ≤ 255 := fun h => rd_isB (isB_drop hb p) (j := 1) (by omega)
    refine q0 p10_5_0 hE (st_move rfl) ?_; clear hE a; intro a hE
    refine q0 p10_5_1 hE (st_indexAddrC (i := 0) Try.underlying22 tS5 (hrow _ (F_A _ K_0)) rfl rfl (by omega)) ?_; clear hE a; intro a hE
    refine q0 (v := Value.int .u8 (rd (l.drop p) (0 : Int))) p10_5_2 hE (st_loadC (i := 0) tA5 (hrow _ (F_A _ K_0)) (by omega) rfl) ?_; clear hE a; intro a hE
    refine q0 p10_5_3 hE (st_conv (z := (rd (l.drop p) (0 : Int))) (by kernel_rfl) Try.underlying3 rfl (wr_i64 _ (by omega) (by omega))) ?_; clear hE a; intro a hE
    refine q0 p10_5_4 hE (st_assign rfl) ?_; clear hE a; intro a hE
    refine p_nil (x_norm (wp_seq ?_))
    rcases Decidable.em (rd (l.drop p) (0 : Int) ≤ 9) with hKN | hKN
    ·
     obtain ⟨k, hke⟩ : ∃ k : Nat, rd (l.drop p) (0 : Int) = (k : Int) := ⟨(rd (l.drop p) (0 : Int)).toNat, by omega⟩
     have hk9 : k ≤ 9 := by omega
     rw [hke] at hE
     refine c_reg R10_6_l ?_
     refine q0 p10_6_0 hE (st_move rfl) ?_; clear hE a; intro a hE
     refine p_cons (s_call (xs := [Operand.tmp 20]) (args := [Value.int .i64 (k : Int)]) p10_6_1 hE wn_none rfl rfl Try.func53 cl53 (parts_ok k hk9 _) ?_)
     rintro e w5 ⟨rfl, hk⟩
     replace O_out := own_keep O_out hk (fun _ _ h => h)
     replace K_0 := K_0.then_ hk (fun _ h => h.elim)
     replace K_s2 := K_s2.then_ hk (fun _ h => h.elim)
     refine ⟨_, rfl, ?_⟩; clear hE a; intro a hE
     refine q0 p10_6_2 hE (st_eqlS (b := false) rfl rfl (parts_facts k hk9).2.2.2.2) ?_; clear hE a; intro a hE
     refine p_nil (x_norm ?_)
     refine c_cond (t := false) hE rfl ?_
     refine wp_skip (x_norm (wp_seq (c_reg R10_8_l ?_)))
     refine q0 p10_8_0 hE (st_move rfl) ?_; clear hE a; intro a hE
     rcases Decidable.em ((k : Int) = 0) with hc6 | hc6
     ·
      refine p_cons (s_still (v := Value.bool true) p10_8_1 hE wn_none rfl (st_eql rfl rfl (decide_eq_true hc6)) ?_); clear hE a; intro a hE
      refine p_nil (x_norm ?_)
      refine c_cond (t := true) hE rfl ?_
      refine c_reg R10_9_l ?_
      refine q0 p10_9_0 hE (st_move rfl) ?_; clear hE a; intro a hE
      refine q0 p10_9_1 hE (st_build (xs := []) (vs := []) (cs := (([Value.int .i64 0, Value.slice none 0 0] ++ b16 (fun _ => 0) ++ [Value.slice none 0 0])).toArray) rfl (by kernel_rfl)) ?_; clear hE a; intro a hE
      refine p_cons (s_row (xs := [(0, Operand.tmp 26)]) (vs := [(0, Value.agg (([Value.int .i64 0, Value.slice none 0 0] ++ b16 (fun _ => 0) ++ [Value.slice none 0 0])).toArray)]) (cs := (([Value.int .i64 0, Value.slice none 0 0] ++ b16 (fun _ => 0) ++ [Value.slice none 0 0])).toArray) p10_9_2 hE wn_none rfl Try.underlying27 rfl (by kernel_rfl) ?_)
      clear hE a; intro g7 w8 z9 B_g7 hk a hE
      have z_0_g7 := Nat.le_trans K_0.kept.1 z9
      have z_s2_g7 := Nat.le_trans K_s2.kept.1 z9
      have Nb_out_g7 : ¬ OB A_out g7 := fun h => by have := (own_ob O_out h).2; omega
      replace O_out := own_keep O_out hk (fun _ _ h => h)
      replace K_0 := K_0.then_ hk (fun _ h => h.elim)
      replace K_s2 := K_s2.then_ hk (fun _ h => h.elim)
      clear hk
      refine p_cons (s_append (s := 19) (xs := zs) (news := ([Value.int .i64 0, Value.slice none 0 0] ++ b16 (fun _ => 0) ++ [Value.slice none 0 0])) p10_9_3 hE wn_none rfl Try.underlying27 eD45 (by decide) rfl O_out rfl rfl (newsB B_g7 rfl) (ones rfl) (by omega) (by omega) K_0.kept.1 ?_)
      clear hE a; intro Aout10 cout11 w12 O_out' hk hat a hE
      have Nb_out_g7' := grow_n Nb_out_g7 (blk_lt B_g7) hat
      have Z_0_out' := grow_z Z_0_out K_0.kept.1 hat
      have Z_s2_out' := grow_z Z_s2_out K_s2.kept.1 hat
      replace B_g7 := kp_blk B_g7 hk Nb_out_g7
      replace K_0 := K_0.then_ hk Z_0_out
      replace K_s2 := K_s2.then_ hk Z_s2_out
      replace Nb_out_g7 := Nb_out_g7'
      replace Z_0_out := Z_0_out'
      replace Z_s2_out := Z_s2_out'
      replace O_out := O_out'
      try clear O_out'
      clear hk hat
      refine q0 p10_9_4 hE (st_assign rfl) ?_; clear hE a; intro a hE
      refine p_nil (x_norm (c_reg R10_10_l ?_))
      refine q0 p10_10_0 hE (st_move rfl) ?_; clear hE a; intro a hE
      refine q0 p10_10_1 hE (st_sliceL (lo := 1) Try.underlying22 tS5 rfl rfl (by omega) rfl rfl rfl) ?_; clear hE a; intro a hE
      refine q0 p10_10_2 hE (st_assign rfl) ?_; clear hE a; intro a hE
      refine p_nil (x_norm (wp_exit (x_exit (x_in (x_norm ?_)))))
      have F9 : ∀ W', Kp w W' (fun _ => False) → Kp w12 W' (fun k => OB Aout10 k) → Reps (Kd.K dO W') 19 (xs ++ [(0, [], l16 (fun _ => 0), [])]) (zs ++ ([Value.int .i64 0, Value.slice none 0 0] ++ b16 (fun _ => 0) ++ [Value.slice none 0 0])) := fun W' hkz hk => by
       have hk1 : Kp w1 W' (fun k => OB A_out k) := K_s2.then_ hk (fun k h => Z_s2_out k h)
       refine Reps.snoc (F_out W' hkz hk1) ?_ rfl
       exact opt_mk 0 [] (fun _ => 0) [] rfl rfl (Nat.le_refl _) (Nat.le_refl _) (Kd.C_nil _ _) (Kd.C_nil _ _)
      have hnx9 := next_nil (b := l.drop p) (by omega)
      have hup9 : upto l (16 - (j + 1)) (xs ++ [(0, [], l16 (fun _ => 0), [])]) (l.drop (p + 1)) := by
       have h := upto_step (b := l) (m := 16 - (j + 1)) (xs := xs) (rest := l.drop p) (by rw [show 16 - (j + 1) + 1 = 16 - j by omega]; exact hup) hne9 (by rw [hnx9])
       rw [hnx9] at h
       simp only [List.drop_drop] at h; exact h
      have hrow9 : ∀ W', Kd.C (Kd.int .u8) W' A l.length l → Kd.C (Kd.int .u8) W' (if cb = 1 then Ab else Option.map (fun x => Addr.add x (1 * 1)) Ab) (nb - 1) (l.drop (p + 1)) := fun W' h => by have h2 := C_rest (k := 1) (c := cb) (hrow W' h) hncb (by omega); rw [List.drop_drop] at h2; exact h2
      exact ⟨j + 1, by omega, Aout10, cout11, (n_out + 1), (zs ++ ([Value.int .i64 0, Value.slice none 0 0] ++ b16 (fun _ => 0) ++ [Value.slice none 0 0])), (xs ++ [(0, [], l16 (fun _ => 0), [])]), (p + 1), (if cb = 1 then Ab else Option.map (fun x => Addr.add x (1 * 1)) Ab), (nb - 1), (cb - 1), En.sub hE ⟨rfl, rfl, trivial⟩, (by omega), (by rw [List.length_append, hxs]; rfl), (by omega), (by omega), (by omega), (by omega), hrow9, hup9, F9, O_out, Z_0_out, K_0⟩
     ·
      refine p_cons (s_still (v := Value.bool false) p10_8_1 hE wn_none rfl (st_eql rfl rfl (decide_eq_false hc6)) ?_); clear hE a; intro a hE
      refine p_nil (x_norm ?_)
      refine c_cond (t := false) hE rfl ?_
      refine wp_skip (x_norm (wp_seq (c_reg R10_11_l ?_)))
      refine q0 p10_11_0 hE (st_move rfl) ?_; clear hE a; intro a hE
      refine q0 p10_11_1 hE (st_len Try.underlying22 rfl) ?_; clear hE a; intro a hE
      rcases Decidable.em ((nb : Int) < 2) with hc13 | hc13
      ·
       refine p_cons (s_still (v := Value.bool true) p10_11_2 hE wn_none rfl (st_lss rfl rfl (decide_eq_true hc13)) ?_); clear hE a; intro a hE
       refine q0 p10_11_3 hE (st_move rfl) ?_; clear hE a; intro a hE
       refine p_cons (s_skip p10_11_4 hE (wn_some g10_11_3 rfl rfl) rfl ?_); clear hE a; intro a hE
       refine p_cons (s_skip p10_11_5 hE (wn_some g10_11_3 rfl rfl) rfl ?_); clear hE a; intro a hE
       refine p_cons (s_skip p10_11_6 hE (wn_some g10_11_3 rfl rfl) rfl ?_); clear hE a; intro a hE
       refine p_cons (s_skip p10_11_7 hE (wn_some g10_11_3 rfl rfl) rfl ?_); clear hE a; intro a hE
       refine p_cons (s_skip p10_11_8 hE (wn_some g10_11_3 rfl rfl) rfl ?_); clear hE a; intro a hE
       refine p_cons (s_skip p10_11_9 hE (wn_some g10_11_3 rfl rfl) rfl ?_); clear hE a; intro a hE
       refine p_cons (s_skip p10_11_10 hE (wn_some g10_11_3 rfl rfl) rfl ?_); clear hE a; intro a hE
       refine p_cons (s_skip p10_11_11 hE (wn_some g10_11_3 rfl rfl) rfl ?_); clear hE a; intro a hE
       refine q0 p10_11_12 hE (st_pick rfl rfl) ?_; clear hE a; intro a hE
       refine p_nil (x_norm ?_)
       refine c_cond (t := true) hE rfl ?_
       refine c_reg R10_12_l ?_
       refine q0 p10_12_0 hE (st_assign rfl) ?_; clear hE a; intro a hE
       refine q0 p10_12_1 hE (st_assign rfl) ?_; clear hE a; intro a hE
       refine p_nil (x_norm (wp_ret (x_ret (x_retB (x_ret (x_retB (x_ret ?_)))))))
       refine ret_list (rs := [.tmp 2, .tmp 3]) (vs := [Value.slice none 0 0, Value.int .i64 4]) rfl hE (.tmp rfl (.tmp rfl .nil)) rfl ?_
       have hnx9 : (nextO (l.drop p)).1 = 4 := next_short hke (by omega) hk9 (by omega)
       have hE9 : decE l = 4 := (upto_bad (m := 16 - (j + 1)) (xs := xs) (by rw [show 16 - (j + 1) + 1 = 16 - j by omega]; exact hup) hne9 (by rw [hnx9]; decide)).trans hnx9
       have hO9 := decO_bad (by rw [hE9, ← hnx9]; exact (by rw [hnx9]; decide))
       exact ⟨none, 0, by rw [hE9, hO9]; rfl, by rw [hO9]; exact Nat.le_refl _, fun W' hk => by rw [hO9]; exact Kd.C_nil _ _, K_0⟩
      ·
       refine p_cons (s_still (v := Value.bool false) p10_11_2 hE wn_none rfl (st_lss rfl rfl (decide_eq_false hc13)) ?_); clear hE a; intro a hE
       refine q0 p10_11_3 hE (st_move rfl) ?_; clear hE a; intro a hE
       refine p_cons (s_still p10_11_4 hE (wn_some g10_11_3 rfl rfl) rfl (st_move rfl) ?_); clear hE a; intro a hE
       refine p_cons (s_still p10_11_5 hE (wn_some g10_11_3 rfl rfl) rfl (st_len Try.underlying22 rfl) ?_); clear hE a; intro a hE
       refine p_cons (s_still p10_11_6 hE (wn_some g10_11_3 rfl rfl) rfl (st_sub (z := (nb : Int) - 2) rfl rfl (wr_i64 _ (by omega) (by omega))) ?_); clear hE a; intro a hE
       refine p_cons (s_still p10_11_7 hE (wn_some g10_11_3 rfl rfl) rfl (st_move rfl) ?_); clear hE a; intro a hE
       refine p_cons (s_still p10_11_8 hE (wn_some g10_11_3 rfl rfl) rfl (st_indexAddrC (i := 1) Try.underlying22 tS5 (hrow _ (F_A _ K_0)) rfl rfl (by omega)) ?_); clear hE a; intro a hE
       refine p_cons (s_still (v := Value.int .u8 (rd (l.drop p) (1 : Int))) p10_11_9 hE (wn_some g10_11_3 rfl rfl) rfl (st_loadC (i := 1) tA5 (hrow _ (F_A _ K_0)) (by omega) rfl) ?_); clear hE a; intro a hE
       refine p_cons (s_still p10_11_10 hE (wn_some g10_11_3 rfl rfl) rfl (st_conv (z := (rd (l.drop p) (1 : Int))) (by kernel_rfl) Try.underlying3 rfl (wr_i64 _ (by have := hk1b (by omega); omega) (by have := hk1b (by omega); omega))) ?_); clear hE a; intro a hE
       rcases Decidable.em ((nb : Int) - 2 < (rd (l.drop p) (1 : Int))) with hc14 | hc14
       ·
        refine p_cons (s_still (v := Value.bool true) p10_11_11 hE (wn_some g10_11_3 rfl rfl) rfl (st_lss rfl rfl (decide_eq_true hc14)) ?_); clear hE a; intro a hE
        refine q0 p10_11_12 hE (st_pick rfl rfl) ?_; clear hE a; intro a hE
        refine p_nil (x_norm ?_)
        refine c_cond (t := true) hE rfl ?_
        refine c_reg R10_12_l ?_
        refine q0 p10_12_0 hE (st_assign rfl) ?_; clear hE a; intro a hE
        refine q0 p10_12_1 hE (st_assign rfl) ?_; clear hE a; intro a hE
        refine p_nil (x_norm (wp_ret (x_ret (x_retB (x_ret (x_retB (x_ret ?_)))))))
        refine ret_list (rs := [.tmp 2, .tmp 3]) (vs := [Value.slice none 0 0, Value.int .i64 4]) rfl hE (.tmp rfl (.tmp rfl .nil)) rfl ?_
        have hnx9 : (nextO (l.drop p)).1 = 4 := next_short hke (by omega) hk9 (by omega)
        have hE9 : decE l = 4 := (upto_bad (m := 16 - (j + 1)) (xs := xs) (by rw [show 16 - (j + 1) + 1 = 16 - j by omega]; exact hup) hne9 (by rw [hnx9]; decide)).trans hnx9
        have hO9 := decO_bad (by rw [hE9, ← hnx9]; exact (by rw [hnx9]; decide))
        exact ⟨none, 0, by rw [hE9, hO9]; rfl, by rw [hO9]; exact Nat.le_refl _, fun W' hk => by rw [hO9]; exact Kd.C_nil _ _, K_0⟩
       ·
        refine p_cons (s_still (v := Value.bool false) p10_11_11 hE (wn_some g10_11_3 rfl rfl) rfl (st_lss rfl rfl (decide_eq_false hc14)) ?_); clear hE a; intro a hE
        refine q0 p10_11_12 hE (st_pick rfl rfl) ?_; clear hE a; intro a hE
        refine p_nil (x_norm ?_)
        refine c_cond (t := false) hE rfl ?_
        refine wp_skip (x_norm (c_reg R10_13_l ?_))
        refine q0 p10_13_0 hE (st_move rfl) ?_; clear hE a; intro a hE
        refine q0 p10_13_1 hE (st_indexAddrC (i := 1) Try.underlying22 tS5 (hrow _ (F_A _ K_0)) rfl rfl (by omega)) ?_; clear hE a; intro a hE
        refine q0 (v := Value.int .u8 (rd (l.drop p) (1 : Int))) p10_13_2 hE (st_loadC (i := 1) tA5 (hrow _ (F_A _ K_0)) (by omega) rfl) ?_; clear hE a; intro a hE
        refine q0 p10_13_3 hE (st_conv (z := (rd (l.drop p) (1 : Int))) (by kernel_rfl) Try.underlying3 rfl (wr_i64 _ (by have := hk1b (by omega); omega) (by have := hk1b (by omega); omega))) ?_; clear hE a; intro a hE
        refine q0 p10_13_4 hE (st_assign rfl) ?_; clear hE a; intro a hE
        refine p_nil (x_norm (c_reg R10_14_l ?_))
        have hk1c := hk1b (by omega)
        obtain ⟨n, hne⟩ : ∃ n : Nat, rd (l.drop p) (1 : Int) = (n : Int) := ⟨(rd (l.drop p) (1 : Int)).toNat, by omega⟩
        have hnf9 := next_full hke (by omega) hk9 (by omega) hne (by omega)
        have hdl9 : (((l.drop p).drop 2).take n).length = n := by rw [List.length_take, List.length_drop]; omega
        rw [hne] at hE
        refine q0 p10_14_0 hE (st_move rfl) ?_; clear hE a; intro a hE
        refine q0 p10_14_1 hE (st_move rfl) ?_; clear hE a; intro a hE
        refine q0 p10_14_2 hE (st_move rfl) ?_; clear hE a; intro a hE
        refine q0 p10_14_3 hE (st_add (z := ((2 + n : Nat) : Int)) rfl rfl (by rw [wr_i64 _ (by omega) (by omega)]; omega)) ?_; clear hE a; intro a hE
        refine q0 p10_14_4 hE (st_sliceLH (lo := 2) (hi := 2 + n) (r := n) Try.underlying22 tS5 rfl rfl rfl (by omega) (by omega) (by omega) rfl rfl) ?_; clear hE a; intro a hE
        have hlo8 : ∀ k, OB A_out k → k < w5.heap.size := fun k h => (own_ob O_out h).2
        refine p_cons (s_call (xs := [Operand.tmp 49, Operand.tmp 53]) (args := [Value.int .i64 (k : Int), Value.slice (if cb = 2 then Ab else Option.map (fun x => Addr.add x (2 * 1)) Ab) n (cb - 2)]) p10_14_5 hE wn_none rfl rfl Try.func54 cl54 (rbody_n (if cb = 2 then Ab else Option.map (fun x => Addr.add x (2 * 1)) Ab) (cb - 2) n (((l.drop p).drop 2).take n) k hk9 (by omega) hdl9.symm _ (by omega) (by omega) (by omega) (isB_take (isB_drop (isB_drop hb p) 2) n) (fun W' hk => (C_cut (lo := 2) (k := n) (A' := (if cb = 2 then Ab else Option.map (fun x => Addr.add x (2 * 1)) Ab)) (0 : Int) (hrow W' (F_A W' (K_0.then_ hk (fun _ h => h.elim)))) hncb (by omega) rfl))) ?_)
        rintro e w15 ⟨B9, q9, T9, ct9, x, rfl, hq9, hct9, hFB, hFT, hmk9, hk⟩
        replace O_out := own_keep O_out hk (fun _ _ h => h)
        replace K_0 := K_0.then_ hk (fun _ h => h.elim)
        replace K_s2 := K_s2.then_ hk (fun _ h => h.elim)
        have K_s16 := Kp.refl w15 (fun k => OB A_out k)
        have Z_s16_out : ∀ k, OB A_out k → (fun k => OB A_out k) k ∨ w15.heap.size ≤ k := fun k h => .inl h
        refine ⟨_, rfl, ?_⟩; clear hE a; intro a hE
        refine q0 p10_14_6 hE (st_move rfl) ?_; clear hE a; intro a hE
        refine q0 p10_14_7 hE (st_extract rfl rfl) ?_; clear hE a; intro a hE
        refine q0 p10_14_8 hE (st_extract rfl rfl) ?_; clear hE a; intro a hE
        refine p_cons (s_alloc p10_14_9 hE wn_none rfl tZ45 ?_)
        clear hE a; intro g17 w18 z19 B_g17 hk a hE
        replace B_g17 : w18.heap[g17]? = some (.cells (([Value.int .i64 0, Value.slice none 0 0] ++ b16 (fun _ => 0) ++ [Value.slice none 0 0])).toArray 45 (0, 0)) := B_g17
        have z_0_g17 := Nat.le_trans K_0.kept.1 z19
        have z_s2_g17 := Nat.le_trans K_s2.kept.1 z19
        have z_s16_g17 := Nat.le_trans K_s16.kept.1 z19
        have Nb_out_g17 : ¬ OB A_out g17 := fun h => by have := (own_ob O_out h).2; omega
        replace O_out := own_keep O_out hk (fun _ _ h => h)
        replace K_0 := K_0.then_ hk (fun _ h => h.elim)
        replace K_s2 := K_s2.then_ hk (fun _ h => h.elim)
        replace K_s16 := K_s16.then_ hk (fun _ h => h.elim)
        clear hk
        refine p_cons (s_store (off := 0) (k := 19) (cs' := (([Value.int .i64 x.1, Value.slice B9 x.2.1.length q9] ++ b16 (adr x) ++ [Value.slice T9 x.2.2.2.length ct9])).toArray) p10_14_10 hE wn_none tS45 rfl rfl rfl rfl B_g17 (Nat.le_of_ble_eq_true rfl) rfl ?_)
        intro w20 B_g17' hk
        replace O_out := own_keep O_out hk (fun k hk2 h2 => Nb_out_g17 (by rw [show k = g17 from h2] at hk2; exact hk2))
        replace K_0 := K_0.then_ hk (fun k h => by rw [show k = g17 from h]; exact Or.inr z_0_g17)
        replace K_s2 := K_s2.then_ hk (fun k h => by rw [show k = g17 from h]; exact Or.inr z_s2_g17)
        replace K_s16 := K_s16.then_ hk (fun k h => by rw [show k = g17 from h]; exact Or.inr z_s16_g17)
        replace B_g17 := B_g17'
        clear hk
        refine q0 p10_14_11 hE (st_assign rfl) ?_; clear hE a; intro a hE
        refine p_nil (x_norm (wp_seq (c_reg R10_15_l ?_)))
        refine q0 p10_15_0 hE (st_move rfl) ?_; clear hE a; intro a hE
        refine q0 p10_15_1 hE (st_not rfl rfl) ?_; clear hE a; intro a hE
        refine p_nil (x_norm ?_)
        rcases Bool.eq_false_or_eq_true (okD k (((l.drop p).drop 2).take n)) with hb21 | hb21
        ·
         rw [hb21] at hE
         refine c_cond (t := false) hE rfl ?_
         refine wp_skip (x_norm (c_reg R10_17_l ?_))
         have hx9 := hmk9 hb21
         rw [if_neg (by rw [hb21]; decide), ← hx9] at hnf9
         refine q0 p10_17_0 hE (st_loadN (off := 0) (k := 19) (vs := ([Value.int .i64 x.1, Value.slice B9 x.2.1.length q9] ++ b16 (adr x) ++ [Value.slice T9 x.2.2.2.length ct9])) tA45 tS45 rfl B_g17 rfl rfl) ?_; clear hE a; intro a hE
         refine p_cons (s_call (xs := [Operand.tmp 59]) (args := [Value.agg (([Value.int .i64 x.1, Value.slice B9 x.2.1.length q9] ++ b16 (adr x) ++ [Value.slice T9 x.2.2.2.length ct9])).toArray]) p10_17_1 hE wn_none rfl rfl Try.func20 cl20 (rcheck_x x B9 T9 q9 ct9 (by rw [hx9]; exact mkO_top hk9 (isB_take (isB_drop (isB_drop hb p) 2) n) (by omega)) _ (fun W' hk => hFB W' ((K_s16.mono (fun k h => hlo8 k h)).then_ hk (fun k h => h.elim)))) ?_)
         rintro e w22 ⟨rfl, hk⟩
         replace B_g17 := kp_blk B_g17 hk (fun h => h)
         replace O_out := own_keep O_out hk (fun _ _ h => h)
         replace K_0 := K_0.then_ hk (fun _ h => h.elim)
         replace K_s2 := K_s2.then_ hk (fun _ h => h.elim)
         replace K_s16 := K_s16.then_ hk (fun _ h => h.elim)
         refine ⟨_, rfl, ?_⟩; clear hE a; intro a hE
         refine q0 p10_17_2 hE (st_assign rfl) ?_; clear hE a; intro a hE
         refine p_nil (x_norm (wp_seq (c_reg R10_18_l ?_)))
         refine q0 p10_18_0 hE (st_move rfl) ?_; clear hE a; intro a hE
         rcases Decidable.em ((chkV x) = 0) with hc23 | hc23
         ·
          refine p_cons (s_still (v := Value.bool false) p10_18_1 hE wn_none rfl (st_neq rfl rfl (by rw [decide_eq_true hc23]; rfl)) ?_); clear hE a; intro a hE
          refine p_nil (x_norm ?_)
          refine c_cond (t := false) hE rfl ?_
          refine wp_skip (x_norm (c_reg R10_20_l ?_))
          refine q0 p10_20_0 hE (st_move rfl) ?_; clear hE a; intro a hE
          refine q0 p10_20_1 hE (st_loadN (off := 0) (k := 19) (vs := ([Value.int .i64 x.1, Value.slice B9 x.2.1.length q9] ++ b16 (adr x) ++ [Value.slice T9 x.2.2.2.length ct9])) tA45 tS45 rfl B_g17 rfl rfl) ?_; clear hE a; intro a hE
          refine p_cons (s_row (xs := [(0, Operand.tmp 65)]) (vs := [(0, Value.agg (([Value.int .i64 x.1, Value.slice B9 x.2.1.length q9] ++ b16 (adr x) ++ [Value.slice T9 x.2.2.2.length ct9])).toArray)]) (cs := (([Value.int .i64 x.1, Value.slice B9 x.2.1.length q9] ++ b16 (adr x) ++ [Value.slice T9 x.2.2.2.length ct9])).toArray) p10_20_2 hE wn_none rfl Try.underlying27 rfl (by kernel_rfl) ?_)
          clear hE a; intro g24 w25 z26 B_g24 hk a hE
          have n_g17_g24 : g17 ≠ g24 := ne_new B_g17 z26
          have z_0_g24 := Nat.le_trans K_0.kept.1 z26
          have z_s2_g24 := Nat.le_trans K_s2.kept.1 z26
          have z_s16_g24 := Nat.le_trans K_s16.kept.1 z26
          have Nb_out_g24 : ¬ OB A_out g24 := fun h => by have := (own_ob O_out h).2; omega
          replace B_g17 := kp_blk B_g17 hk (fun h => h)
          replace O_out := own_keep O_out hk (fun _ _ h => h)
          replace K_0 := K_0.then_ hk (fun _ h => h.elim)
          replace K_s2 := K_s2.then_ hk (fun _ h => h.elim)
          replace K_s16 := K_s16.then_ hk (fun _ h => h.elim)
          clear hk
          refine p_cons (s_append (s := 19) (xs := zs) (news := ([Value.int .i64 x.1, Value.slice B9 x.2.1.length q9] ++ b16 (adr x) ++ [Value.slice T9 x.2.2.2.length ct9])) p10_20_3 hE wn_none rfl Try.underlying27 eD45 (by decide) rfl O_out rfl rfl (newsB B_g24 rfl) (ones rfl) (by omega) (by omega) K_0.kept.1 ?_)
          clear hE a; intro Aout27 cout28 w29 O_out' hk hat a hE
          have Nb_out_g17' := grow_n Nb_out_g17 (blk_lt B_g17) hat
          have Nb_out_g24' := grow_n Nb_out_g24 (blk_lt B_g24) hat
          have Z_0_out' := grow_z Z_0_out K_0.kept.1 hat
          have Z_s2_out' := grow_z Z_s2_out K_s2.kept.1 hat
          have Z_s16_out' := grow_z Z_s16_out K_s16.kept.1 hat
          replace B_g17 := kp_blk B_g17 hk Nb_out_g17
          replace B_g24 := kp_blk B_g24 hk Nb_out_g24
          replace K_0 := K_0.then_ hk Z_0_out
          replace K_s2 := K_s2.then_ hk Z_s2_out
          replace K_s16 := K_s16.then_ hk Z_s16_out
          replace Nb_out_g17 := Nb_out_g17'
          replace Nb_out_g24 := Nb_out_g24'
          replace Z_0_out := Z_0_out'
          replace Z_s2_out := Z_s2_out'
          replace Z_s16_out := Z_s16_out'
          replace O_out := O_out'
          try clear O_out'
          clear hk hat
          refine q0 p10_20_4 hE (st_assign rfl) ?_; clear hE a; intro a hE
          refine p_nil (x_norm (c_regL R10_21_l ?_))
          refine q0 p10_21_0 hE (st_move rfl) ?_; clear hE a; intro a hE
          refine q0 p10_21_1 hE (st_move rfl) ?_; clear hE a; intro a hE
          refine q0 p10_21_2 hE (st_add (z := ((2 + n : Nat) : Int)) rfl rfl (by rw [wr_i64 _ (by omega) (by omega)]; omega)) ?_; clear hE a; intro a hE
          refine q0 p10_21_3 hE (st_sliceL (lo := (2 + n)) Try.underlying22 tS5 rfl rfl (by omega) rfl rfl rfl) ?_; clear hE a; intro a hE
          refine q0 p10_21_4 hE (st_assign rfl) ?_; clear hE a; intro a hE
          refine p_nil (x_normB (x_norm ?_))
          have F9 : ∀ W', Kp w W' (fun _ => False) → Kp w29 W' (fun k => OB Aout27 k) → Reps (Kd.K dO W') 19 (xs ++ [x]) (zs ++ ([Value.int .i64 x.1, Value.slice B9 x.2.1.length q9] ++ b16 (adr x) ++ [Value.slice T9 x.2.2.2.length ct9])) := fun W' hkz hk => by
           have hk1 : Kp w1 W' (fun k => OB A_out k) := K_s2.then_ hk (fun k h => Z_s2_out k h)
           have hk2 : Kp w15 W' (fun k => k < w5.heap.size) := (K_s16.mono (fun k h => hlo8 k h)).then_ hk (fun k h => (Z_s16_out k h).elim (fun h => .inl (hlo8 k h)) .inr)
           refine Reps.snoc (F_out W' hkz hk1) ?_ rfl
           have hm9 := opt_mk x.1 x.2.1 (adr x) x.2.2.2 rfl rfl hq9 hct9 (hFB W' hk2) (hFT W' (by rw [hdl9]; exact (C_cut (lo := 2) (k := n) (A' := (if cb = 2 then Ab else Option.map (fun x => Addr.add x (2 * 1)) Ab)) (0 : Int) (hrow W' (F_A W' hkz)) hncb (by omega) rfl)))
           rw [show (x.1, x.2.1, l16 (adr x), x.2.2.2) = x from by rw [hx9]; exact mkO_fine k (((l.drop p).drop 2).take n)] at hm9
           exact hm9
          have hnx9 : nextO (l.drop p) = (0, x, 2 + n) := by rw [hnf9, hc23]
          have hup9 : upto l (16 - (j + 1)) (xs ++ [x]) (l.drop (p + (2 + n))) := by
           have h := upto_step (b := l) (m := 16 - (j + 1)) (xs := xs) (rest := l.drop p) (by rw [show 16 - (j + 1) + 1 = 16 - j by omega]; exact hup) hne9 (by rw [hnx9])
           rw [hnx9] at h
           simp only [List.drop_drop] at h; exact h
          have hrow9 : ∀ W', Kd.C (Kd.int .u8) W' A l.length l → Kd.C (Kd.int .u8) W' (if cb = (2 + n) then Ab else Option.map (fun x => Addr.add x ((2 + n) * 1)) Ab) (nb - (2 + n)) (l.drop (p + (2 + n))) := fun W' h => by have h2 := C_rest (k := (2 + n)) (c := cb) (hrow W' h) hncb (by omega); rw [List.drop_drop] at h2; exact h2
          exact ⟨j + 1, by omega, Aout27, cout28, (n_out + 1), (zs ++ ([Value.int .i64 x.1, Value.slice B9 x.2.1.length q9] ++ b16 (adr x) ++ [Value.slice T9 x.2.2.2.length ct9])), (xs ++ [x]), (p + (2 + n)), (if cb = (2 + n) then Ab else Option.map (fun x => Addr.add x ((2 + n) * 1)) Ab), (nb - (2 + n)), (cb - (2 + n)), En.sub hE ⟨rfl, rfl, trivial⟩, (by omega), (by rw [List.length_append, hxs]; rfl), (by omega), (by omega), (by omega), (by omega), hrow9, hup9, F9, O_out, Z_0_out, K_0⟩
         ·
          refine p_cons (s_still (v := Value.bool true) p10_18_1 hE wn_none rfl (st_neq rfl rfl (by rw [decide_eq_false hc23]; rfl)) ?_); clear hE a; intro a hE
          refine p_nil (x_norm ?_)
          refine c_cond (t := true) hE rfl ?_
          refine c_reg R10_19_l ?_
          refine q0 p10_19_0 hE (st_move rfl) ?_; clear hE a; intro a hE
          refine q0 p10_19_1 hE (st_assign rfl) ?_; clear hE a; intro a hE
          refine q0 p10_19_2 hE (st_assign rfl) ?_; clear hE a; intro a hE
          refine p_nil (x_norm (wp_ret (x_ret (x_retB (x_ret (x_retB (x_ret ?_)))))))
          refine ret_list (rs := [.tmp 2, .tmp 3]) (vs := [Value.slice none 0 0, Value.int .i64 (chkV x)]) rfl hE (.tmp rfl (.tmp rfl .nil)) rfl ?_
          have hnx9 : (nextO (l.drop p)).1 = chkV x := by rw [hnf9]
          have hE9 : decE l = (chkV x) := (upto_bad (m := 16 - (j + 1)) (xs := xs) (by rw [show 16 - (j + 1) + 1 = 16 - j by omega]; exact hup) hne9 (by rw [hnx9]; exact hc23)).trans hnx9
          have hO9 := decO_bad (by rw [hE9, ← hnx9]; exact (by rw [hnx9]; exact hc23))
          exact ⟨none, 0, by rw [hE9, hO9]; rfl, by rw [hO9]; exact Nat.le_refl _, fun W' hk => by rw [hO9]; exact Kd.C_nil _ _, K_0⟩
        ·
         rw [hb21] at hE
         refine c_cond (t := true) hE rfl ?_
         refine c_reg R10_16_l ?_
         refine q0 p10_16_0 hE (st_assign rfl) ?_; clear hE a; intro a hE
         refine q0 p10_16_1 hE (st_assign rfl) ?_; clear hE a; intro a hE
         refine p_nil (x_norm (wp_ret (x_ret (x_retB (x_ret (x_retB (x_ret ?_)))))))
         refine ret_list (rs := [.tmp 2, .tmp 3]) (vs := [Value.slice none 0 0, Value.int .i64 3]) rfl hE (.tmp rfl (.tmp rfl .nil)) rfl ?_
         have hnx9 : (nextO (l.drop p)).1 = 3 := by rw [hnf9, if_pos hb21]
         have hE9 : decE l = 3 := (upto_bad (m := 16 - (j + 1)) (xs := xs) (by rw [show 16 - (j + 1) + 1 = 16 - j by omega]; exact hup) hne9 (by rw [hnx9]; decide)).trans hnx9
         have hO9 := decO_bad (by rw [hE9, ← hnx9]; exact (by rw [hnx9]; decide))
         exact ⟨none, 0, by rw [hE9, hO9]; rfl, by rw [hO9]; exact Nat.le_refl _, fun W' hk => by rw [hO9]; exact Kd.C_nil _ _, K_0⟩
    ·
     refine c_reg R10_6_l ?_
     refine q0 p10_6_0 hE (st_move rfl) ?_; clear hE a; intro a hE
     refine p_cons (s_call (xs := [Operand.tmp 20]) (args := [Value.int .i64 (rd (l.drop p) (0 : Int))]) p10_6_1 hE wn_none rfl rfl Try.func53 cl53 (parts_no (rd (l.drop p) (0 : Int)) (by omega) _) ?_)
     rintro e w30 ⟨rfl, hk⟩
     replace O_out := own_keep O_out hk (fun _ _ h => h)
     replace K_0 := K_0.then_ hk (fun _ h => h.elim)
     replace K_s2 := K_s2.then_ hk (fun _ h => h.elim)
     refine ⟨_, rfl, ?_⟩; clear hE a; intro a hE
     refine q0 p10_6_2 hE (st_eqlS (b := true) rfl rfl (by decide +kernel)) ?_; clear hE a; intro a hE
     refine p_nil (x_norm ?_)
     refine c_cond (t := true) hE rfl ?_
     refine c_reg R10_7_l ?_
     refine q0 p10_7_0 hE (st_assign rfl) ?_; clear hE a; intro a hE
     refine q0 p10_7_1 hE (st_assign rfl) ?_; clear hE a; intro a hE
     refine p_nil (x_norm (wp_ret (x_ret (x_retB (x_ret (x_retB (x_ret ?_)))))))
     refine ret_list (rs := [.tmp 2, .tmp 3]) (vs := [Value.slice none 0 0, Value.int .i64 6]) rfl hE (.tmp rfl (.tmp rfl .nil)) rfl ?_
     have hnx9 : (nextO (l.drop p)).1 = 6 := next_big (by omega)
     have hE9 : decE l = 6 := (upto_bad (m := 16 - (j + 1)) (xs := xs) (by rw [show 16 - (j + 1) + 1 = 16 - j by omega]; exact hup) hne9 (by rw [hnx9]; decide)).trans hnx9
     have hO9 := decO_bad (by rw [hE9, ← hnx9]; exact (by rw [hnx9]; decide))
     exact ⟨none, 0, by rw [hE9, hO9]; rfl, by rw [hO9]; exact Nat.le_refl _, fun W' hk => by rw [hO9]; exact Kd.C_nil _ _, K_0⟩
  ·
   refine p_cons (s_still (v := Value.bool false) p10_2_2 hE wn_none rfl (st_gtr rfl rfl (decide_eq_false hc3)) ?_); clear hE a; intro a hE
   refine p_nil (x_norm ?_)
   refine c_cond (t := false) hE rfl ?_
   refine wp_exit (x_exit (x_exit (x_in (x_norm (c_reg R10_22_l ?_)))))
   refine q0 p10_22_0 hE (st_move rfl) ?_; clear hE a; intro a hE
   refine q0 p10_22_1 hE (st_assign rfl) ?_; clear hE a; intro a hE
   refine q0 p10_22_2 hE (st_assign rfl) ?_; clear hE a; intro a hE
   refine p_nil (x_norm (wp_ret ?_))
   refine ret_list (rs := [.tmp 2, .tmp 3]) (vs := [Value.slice A_out n_out c_out, Value.int .i64 0]) rfl hE (.tmp rfl (.tmp rfl .nil)) rfl ?_
   rw [show l.drop p = [] from List.drop_of_length_le (by omega)] at hup
   obtain ⟨hE9, hO9⟩ := upto_end hup
   subst hn_out
   exact ⟨A_out, c_out, by rw [hE9, hO9, hxs], by rw [hO9, hxs]; exact (own_caps O_out).1, fun W' hk => by rw [hO9]; have h := own_C (d := dO) (own_keep O_out hk (fun _ _ h => h)) (F_out W' (K_0.then_ hk (fun _ h => h.elim)) (K_s2.then_ hk (fun _ h => h.elim))) hxs; rw [hxs]; exact h, K_0⟩
end Go.Proofs.Ytgpclehnomkbmaa.Dd
