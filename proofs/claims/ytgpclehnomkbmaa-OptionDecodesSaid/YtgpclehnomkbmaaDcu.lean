/- The document's cursor. -/
import Derived.Test.YtgpclehnomkbmaaCus
set_option maxRecDepth 100000
set_option linter.unusedVariables false
set_option linter.unusedSimpArgs false
namespace Go.Proofs.Ytgpclehnomkbmaa.Dc
open Go.RowKit Go.Proofs.YtgpclehnomkbmaaW.PrintWords Go.Proofs.Ytgpclehnomkbmaa.Ds Go.Proofs.Ytgpclehnomkbmaa.Cu
open Go.Proofs.Ytgpclehnomkbmaa.Pk (Kp spanF)
theorem R71_0_l : List.range (regOf Try.f71 0).size = [0] := by kernel_rfl
theorem R71_1_l : List.range (regOf Try.f71 1).size = [0, 1, 2, 3, 4, 5, 6, 7, 8] := by kernel_rfl
theorem R71_3_l : List.range (regOf Try.f71 3).size = [0, 1, 2, 3, 4, 5, 6, 7, 8, 9, 10, 11, 12, 13] := by kernel_rfl
theorem R71_4_l : List.range (regOf Try.f71 4).size = [0, 1, 2, 3] := by kernel_rfl
theorem R71_5_l : List.range (regOf Try.f71 5).size = [0, 1, 2, 3, 4] := by kernel_rfl
theorem R71_6_l : List.range (regOf Try.f71 6).size = [0] := by kernel_rfl
theorem R71_7_l : List.range (regOf Try.f71 7).size = [0, 1, 2, 3, 4, 5, 6] := by kernel_rfl
theorem R71_8_l : List.range (regOf Try.f71 8).size = [0, 1, 2, 3, 4, 5, 6, 7, 8, 9] := by kernel_rfl
theorem R71_9_l : List.range (regOf Try.f71 9).size = [0, 1, 2, 3, 4, 5, 6, 7, 8, 9] := by kernel_rfl
theorem R71_10_l : List.range (regOf Try.f71 10).size = [0, 1] := by kernel_rfl
theorem body71 : Try.f71.body = some (.seq (.region 0 (regOf Try.f71 0) false) (.seq (.seq (.region 1 (regOf Try.f71 1) false) (.cond (Operand.tmp 14) (.region 2 (regOf Try.f71 2) false) (.skip))) (.seq (.seq (.region 3 (regOf Try.f71 3) false) (.cond (Operand.tmp 31) (.region 4 (regOf Try.f71 4) false) (.skip))) (.seq (.seq (.region 5 (regOf Try.f71 5) false) (.cond (Operand.tmp 39) (.seq (.region 6 (regOf Try.f71 6) false) (.ret)) (.skip))) (.seq (.region 7 (regOf Try.f71 7) false) (.seq (.region 8 (regOf Try.f71 8) false) (.seq (.region 9 (regOf Try.f71 9) false) (.seq (.region 10 (regOf Try.f71 10) false) (.ret))))))))) := by kernel_rfl
theorem p71_0_0 : pj (regOf Try.f71 0) 0 = some (some 4, .assign (.const (.slice none 0 0)), 22, none) := by kernel_rfl
theorem p71_1_0 : pj (regOf Try.f71 1) 0 = some (some 6, .move (.tmp 0), 136, none) := by kernel_rfl
theorem p71_1_1 : pj (regOf Try.f71 1) 1 = some (some 7, .nilCheck (.tmp 6), 0, none) := by kernel_rfl
theorem p71_1_2 : pj (regOf Try.f71 1) 2 = some (some 8, .fieldAddr 138 (.tmp 7) 2, 0, none) := by kernel_rfl
theorem tS3 : (Try.prog.info? 3).map (·.size) = some 1 := by kernel_rfl
theorem p71_1_3 : pj (regOf Try.f71 1) 3 = some (some 9, .load 3 (.tmp 8), 3, none) := by kernel_rfl
theorem tA3 : (Try.prog.underlying 3).map aggD = some false := by kernel_rfl
theorem p71_1_4 : pj (regOf Try.f71 1) 4 = some (some 10, .binOp .eql 3 (.tmp 9) (.const (.int .i64 0)) 3, 4, none) := by kernel_rfl
theorem p71_1_5 : pj (regOf Try.f71 1) 5 = some (some 11, .move (.tmp 10), 4, none) := by kernel_rfl
theorem p71_1_6 : pj (regOf Try.f71 1) 6 = some (some 12, .move (.tmp 1), 3, some (5, true)) := by kernel_rfl
theorem g71_1_5 : dstOf (regOf Try.f71 1) 5 = some 11 := by kernel_rfl
theorem p71_1_7 : pj (regOf Try.f71 1) 7 = some (some 13, .binOp .lss 3 (.tmp 12) (.const (.int .i64 0)) 3, 4, some (5, true)) := by kernel_rfl
theorem p71_1_8 : pj (regOf Try.f71 1) 8 = some (some 14, .pick (.tmp 11) (.tmp 13) (.const (.bool false)), 4, none) := by kernel_rfl
theorem p71_3_0 : pj (regOf Try.f71 3) 0 = some (some 18, .move (.tmp 0), 136, none) := by kernel_rfl
theorem p71_3_1 : pj (regOf Try.f71 3) 1 = some (some 19, .nilCheck (.tmp 18), 0, none) := by kernel_rfl
theorem p71_3_2 : pj (regOf Try.f71 3) 2 = some (some 20, .fieldAddr 138 (.tmp 19) 2, 0, none) := by kernel_rfl
theorem p71_3_3 : pj (regOf Try.f71 3) 3 = some (some 21, .load 3 (.tmp 20), 3, none) := by kernel_rfl
theorem p71_3_4 : pj (regOf Try.f71 3) 4 = some (some 22, .binOp .eql 3 (.tmp 21) (.const (.int .i64 0)) 3, 4, none) := by kernel_rfl
theorem p71_3_5 : pj (regOf Try.f71 3) 5 = some (some 23, .move (.tmp 22), 4, none) := by kernel_rfl
theorem p71_3_6 : pj (regOf Try.f71 3) 6 = some (some 24, .move (.tmp 1), 3, some (5, true)) := by kernel_rfl
theorem g71_3_5 : dstOf (regOf Try.f71 3) 5 = some 23 := by kernel_rfl
theorem p71_3_7 : pj (regOf Try.f71 3) 7 = some (some 25, .move (.tmp 0), 136, some (5, true)) := by kernel_rfl
theorem p71_3_8 : pj (regOf Try.f71 3) 8 = some (some 26, .nilCheck (.tmp 25), 0, some (5, true)) := by kernel_rfl
theorem p71_3_9 : pj (regOf Try.f71 3) 9 = some (some 27, .fieldAddr 138 (.tmp 26) 0, 0, some (5, true)) := by kernel_rfl
theorem tS22 : (Try.prog.info? 22).map (·.size) = some 1 := by kernel_rfl
theorem p71_3_10 : pj (regOf Try.f71 3) 10 = some (some 28, .load 22 (.tmp 27), 22, some (5, true)) := by kernel_rfl
theorem tA22 : (Try.prog.underlying 22).map aggD = some false := by kernel_rfl
theorem p71_3_11 : pj (regOf Try.f71 3) 11 = some (some 29, .call { callee := .builtin .len, args := #[.tmp 28], argTypes := #[22] }, 3, some (5, true)) := by kernel_rfl
theorem p71_3_12 : pj (regOf Try.f71 3) 12 = some (some 30, .binOp .gtr 3 (.tmp 24) (.tmp 29) 3, 4, some (5, true)) := by kernel_rfl
theorem p71_3_13 : pj (regOf Try.f71 3) 13 = some (some 31, .pick (.tmp 23) (.tmp 30) (.const (.bool false)), 4, none) := by kernel_rfl
theorem p71_5_0 : pj (regOf Try.f71 5) 0 = some (some 35, .move (.tmp 0), 136, none) := by kernel_rfl
theorem p71_5_1 : pj (regOf Try.f71 5) 1 = some (some 36, .nilCheck (.tmp 35), 0, none) := by kernel_rfl
theorem p71_5_2 : pj (regOf Try.f71 5) 2 = some (some 37, .fieldAddr 138 (.tmp 36) 2, 0, none) := by kernel_rfl
theorem p71_5_3 : pj (regOf Try.f71 5) 3 = some (some 38, .load 3 (.tmp 37), 3, none) := by kernel_rfl
theorem p71_5_4 : pj (regOf Try.f71 5) 4 = some (some 39, .binOp .neq 3 (.tmp 38) (.const (.int .i64 0)) 3, 4, none) := by kernel_rfl
theorem p71_7_0 : pj (regOf Try.f71 7) 0 = some (some 40, .move (.tmp 0), 136, none) := by kernel_rfl
theorem p71_7_1 : pj (regOf Try.f71 7) 1 = some (some 41, .nilCheck (.tmp 40), 0, none) := by kernel_rfl
theorem p71_7_2 : pj (regOf Try.f71 7) 2 = some (some 42, .fieldAddr 138 (.tmp 41) 0, 0, none) := by kernel_rfl
theorem p71_7_3 : pj (regOf Try.f71 7) 3 = some (some 43, .load 22 (.tmp 42), 22, none) := by kernel_rfl
theorem p71_7_4 : pj (regOf Try.f71 7) 4 = some (some 44, .move (.tmp 1), 3, none) := by kernel_rfl
theorem p71_7_5 : pj (regOf Try.f71 7) 5 = some (some 45, .slice 22 (.tmp 43) none (some (.tmp 44)) none, 22, none) := by kernel_rfl
theorem tS5 : (Try.prog.info? 5).map (·.size) = some 1 := by kernel_rfl
theorem p71_7_6 : pj (regOf Try.f71 7) 6 = some (some 5, .assign (.tmp 45), 22, none) := by kernel_rfl
theorem p71_8_0 : pj (regOf Try.f71 8) 0 = some (some 46, .move (.tmp 0), 136, none) := by kernel_rfl
theorem p71_8_1 : pj (regOf Try.f71 8) 1 = some (some 47, .move (.tmp 0), 136, none) := by kernel_rfl
theorem p71_8_2 : pj (regOf Try.f71 8) 2 = some (some 48, .nilCheck (.tmp 47), 0, none) := by kernel_rfl
theorem p71_8_3 : pj (regOf Try.f71 8) 3 = some (some 49, .fieldAddr 138 (.tmp 48) 0, 0, none) := by kernel_rfl
theorem p71_8_4 : pj (regOf Try.f71 8) 4 = some (some 50, .load 22 (.tmp 49), 22, none) := by kernel_rfl
theorem p71_8_5 : pj (regOf Try.f71 8) 5 = some (some 51, .move (.tmp 1), 3, none) := by kernel_rfl
theorem p71_8_6 : pj (regOf Try.f71 8) 6 = some (some 52, .slice 22 (.tmp 50) (some (.tmp 51)) none none, 22, none) := by kernel_rfl
theorem p71_8_7 : pj (regOf Try.f71 8) 7 = some (some 53, .nilCheck (.tmp 46), 0, none) := by kernel_rfl
theorem p71_8_8 : pj (regOf Try.f71 8) 8 = some (some 54, .fieldAddr 138 (.tmp 53) 0, 0, none) := by kernel_rfl
theorem p71_8_9 : pj (regOf Try.f71 8) 9 = some (none, .store 22 (.tmp 54) (.tmp 52), 0, none) := by kernel_rfl
theorem p71_9_0 : pj (regOf Try.f71 9) 0 = some (some 55, .move (.tmp 0), 136, none) := by kernel_rfl
theorem p71_9_1 : pj (regOf Try.f71 9) 1 = some (some 56, .move (.tmp 0), 136, none) := by kernel_rfl
theorem p71_9_2 : pj (regOf Try.f71 9) 2 = some (some 57, .nilCheck (.tmp 56), 0, none) := by kernel_rfl
theorem p71_9_3 : pj (regOf Try.f71 9) 3 = some (some 58, .fieldAddr 138 (.tmp 57) 1, 0, none) := by kernel_rfl
theorem p71_9_4 : pj (regOf Try.f71 9) 4 = some (some 59, .load 3 (.tmp 58), 3, none) := by kernel_rfl
theorem p71_9_5 : pj (regOf Try.f71 9) 5 = some (some 60, .move (.tmp 1), 3, none) := by kernel_rfl
theorem p71_9_6 : pj (regOf Try.f71 9) 6 = some (some 61, .binOp .add 3 (.tmp 59) (.tmp 60) 3, 3, none) := by kernel_rfl
theorem p71_9_7 : pj (regOf Try.f71 9) 7 = some (some 62, .nilCheck (.tmp 55), 0, none) := by kernel_rfl
theorem p71_9_8 : pj (regOf Try.f71 9) 8 = some (some 63, .fieldAddr 138 (.tmp 62) 1, 0, none) := by kernel_rfl
theorem p71_9_9 : pj (regOf Try.f71 9) 9 = some (none, .store 3 (.tmp 63) (.tmp 61), 0, none) := by kernel_rfl
theorem p71_10_0 : pj (regOf Try.f71 10) 0 = some (some 64, .move (.tmp 5), 22, none) := by kernel_rfl
theorem p71_10_1 : pj (regOf Try.f71 10) 1 = some (some 4, .assign (.tmp 64), 22, none) := by kernel_rfl
set_option maxHeartbeats 4000000 in
theorem rb_ok (g : Nat) (A : Option Addr) (n c : Nat) (p : Nat) (r : Int) (k : Nat) (w : World) (hok : (r = 0 ∧ k ≤ n)) (hk0 : k ≤ 1000000000) (hp : p ≤ 1000000000) (hc : n ≤ c) (B_g : w.heap[g]? = some (.cells #[.slice A n c, .int .i64 (p : Int), .int .i64 r] 138 (0, 0))) : Calls Try.prog 71 #[.pointer (some ⟨g, 0, none⟩), .int .i64 (k : Int)] w fun e w' => e = .returned (.slice A k c) ∧ w'.heap[g]? = some (.cells #[.slice (if c = k then A else A.map (·.add (k * 1))) (n - k) (c - k), .int .i64 ((p + k : Nat) : Int), .int .i64 0] 138 (0, 0)) ∧ Kp w w' (fun k => k = g) := by
 have K_0 := Kp.refl w (fun k => k = g)
 refine enter (args := [Value.pointer (some ⟨g, 0, none⟩), Value.int .i64 (k : Int)]) (n := 65) Try.func71 body71 rfl rfl rfl ?_
 intro a hE
 refine c_reg R71_0_l ?_
 refine q0 p71_0_0 hE (st_assign rfl) ?_; clear hE a; intro a hE
 refine p_nil (x_norm (wp_seq (c_reg R71_1_l ?_)))
 refine q0 p71_1_0 hE (st_move rfl) ?_; clear hE a; intro a hE
 refine q0 p71_1_1 hE (st_nil rfl) ?_; clear hE a; intro a hE
 refine q0 p71_1_2 hE (st_fieldAddr Try.underlying138 rfl tS3 rfl rfl) ?_; clear hE a; intro a hE
 refine q0 p71_1_3 hE (st_load1 tA3 rfl ((blk_cell B_g 2).trans rfl)) ?_; clear hE a; intro a hE
 refine q0 p71_1_4 hE (st_eql (b := true) rfl rfl (decide_eq_true hok.1)) ?_; clear hE a; intro a hE
 refine q0 p71_1_5 hE (st_move rfl) ?_; clear hE a; intro a hE
 refine p_cons (s_still p71_1_6 hE (wn_some g71_1_5 rfl rfl) rfl (st_move rfl) ?_); clear hE a; intro a hE
 refine p_cons (s_still p71_1_7 hE (wn_some g71_1_5 rfl rfl) rfl (st_lss (b := false) rfl rfl (decide_eq_false (by omega))) ?_); clear hE a; intro a hE
 refine q0 p71_1_8 hE (st_pick rfl rfl) ?_; clear hE a; intro a hE
 refine p_nil (x_norm ?_)
 refine c_cond (t := false) hE rfl ?_
 refine wp_skip (x_norm (wp_seq (c_reg R71_3_l ?_)))
 refine q0 p71_3_0 hE (st_move rfl) ?_; clear hE a; intro a hE
 refine q0 p71_3_1 hE (st_nil rfl) ?_; clear hE a; intro a hE
 refine q0 p71_3_2 hE (st_fieldAddr Try.underlying138 rfl tS3 rfl rfl) ?_; clear hE a; intro a hE
 refine q0 p71_3_3 hE (st_load1 tA3 rfl ((blk_cell B_g 2).trans rfl)) ?_; clear hE a; intro a hE
 refine q0 p71_3_4 hE (st_eql (b := true) rfl rfl (decide_eq_true hok.1)) ?_; clear hE a; intro a hE
 refine q0 p71_3_5 hE (st_move rfl) ?_; clear hE a; intro a hE
 refine p_cons (s_still p71_3_6 hE (wn_some g71_3_5 rfl rfl) rfl (st_move rfl) ?_); clear hE a; intro a hE
 refine p_cons (s_still p71_3_7 hE (wn_some g71_3_5 rfl rfl) rfl (st_move rfl) ?_); clear hE a; intro a hE
 refine p_cons (s_still p71_3_8 hE (wn_some g71_3_5 rfl rfl) rfl (st_nil rfl) ?_); clear hE a; intro a hE
 refine p_cons (s_still p71_3_9 hE (wn_some g71_3_5 rfl rfl) rfl (st_fieldAddr Try.underlying138 rfl tS22 rfl rfl) ?_); clear hE a; intro a hE
 refine p_cons (s_still p71_3_10 hE (wn_some g71_3_5 rfl rfl) rfl (st_load1 tA22 rfl ((blk_cell B_g 0).trans rfl)) ?_); clear hE a; intro a hE
 refine p_cons (s_still p71_3_11 hE (wn_some g71_3_5 rfl rfl) rfl (st_len Try.underlying22 rfl) ?_); clear hE a; intro a hE
 refine p_cons (s_still p71_3_12 hE (wn_some g71_3_5 rfl rfl) rfl (st_gtr (b := false) rfl rfl (decide_eq_false (by omega))) ?_); clear hE a; intro a hE
 refine q0 p71_3_13 hE (st_pick rfl rfl) ?_; clear hE a; intro a hE
 refine p_nil (x_norm ?_)
 refine c_cond (t := false) hE rfl ?_
 refine wp_skip (x_norm (wp_seq (c_reg R71_5_l ?_)))
 refine q0 p71_5_0 hE (st_move rfl) ?_; clear hE a; intro a hE
 refine q0 p71_5_1 hE (st_nil rfl) ?_; clear hE a; intro a hE
 refine q0 p71_5_2 hE (st_fieldAddr Try.underlying138 rfl tS3 rfl rfl) ?_; clear hE a; intro a hE
 refine q0 p71_5_3 hE (st_load1 tA3 rfl ((blk_cell B_g 2).trans rfl)) ?_; clear hE a; intro a hE
 refine q0 p71_5_4 hE (st_neq (b := false) rfl rfl (by rw [decide_eq_true hok.1]; rfl)) ?_; clear hE a; intro a hE
 refine p_nil (x_norm ?_)
 refine c_cond (t := false) hE rfl ?_
 refine wp_skip (x_norm (c_reg R71_7_l ?_))
 refine q0 p71_7_0 hE (st_move rfl) ?_; clear hE a; intro a hE
 refine q0 p71_7_1 hE (st_nil rfl) ?_; clear hE a; intro a hE
 refine q0 p71_7_2 hE (st_fieldAddr Try.underlying138 rfl tS22 rfl rfl) ?_; clear hE a; intro a hE
 refine q0 p71_7_3 hE (st_load1 tA22 rfl ((blk_cell B_g 0).trans rfl)) ?_; clear hE a; intro a hE
 refine q0 p71_7_4 hE (st_move rfl) ?_; clear hE a; intro a hE
 refine q0 p71_7_5 hE (st_sliceH (h := k) Try.underlying22 tS5 rfl rfl (by omega)) ?_; clear hE a; intro a hE
 refine q0 p71_7_6 hE (st_assign rfl) ?_; clear hE a; intro a hE
 refine p_nil (x_norm (c_reg R71_8_l ?_))
 refine q0 p71_8_0 hE (st_move rfl) ?_; clear hE a; intro a hE
 refine q0 p71_8_1 hE (st_move rfl) ?_; clear hE a; intro a hE
 refine q0 p71_8_2 hE (st_nil rfl) ?_; clear hE a; intro a hE
 refine q0 p71_8_3 hE (st_fieldAddr Try.underlying138 rfl tS22 rfl rfl) ?_; clear hE a; intro a hE
 refine q0 p71_8_4 hE (st_load1 tA22 rfl ((blk_cell B_g 0).trans rfl)) ?_; clear hE a; intro a hE
 refine q0 p71_8_5 hE (st_move rfl) ?_; clear hE a; intro a hE
 refine q0 p71_8_6 hE (st_sliceL (lo := k) Try.underlying22 tS5 rfl rfl (by omega) rfl rfl rfl) ?_; clear hE a; intro a hE
 refine q0 p71_8_7 hE (st_nil rfl) ?_; clear hE a; intro a hE
 refine q0 p71_8_8 hE (st_fieldAddr Try.underlying138 rfl tS22 rfl rfl) ?_; clear hE a; intro a hE
 refine p_cons (s_store (off := 0) (k := 1) (cs' := #[Value.slice (if c = k then A else A.map (·.add (k * 1))) (n - k) (c - k), Value.int .i64 (p : Int), Value.int .i64 r]) p71_8_9 hE wn_none tS22 rfl rfl rfl rfl B_g (Nat.le_of_ble_eq_true rfl) rfl ?_)
 intro w1 B_g' hk
 replace K_0 := K_0.then_ hk (fun k h => by rw [show k = g from h]; exact Or.inl rfl)
 replace B_g := B_g'
 clear hk
 refine p_nil (x_norm (c_reg R71_9_l ?_))
 refine q0 p71_9_0 hE (st_move rfl) ?_; clear hE a; intro a hE
 refine q0 p71_9_1 hE (st_move rfl) ?_; clear hE a; intro a hE
 refine q0 p71_9_2 hE (st_nil rfl) ?_; clear hE a; intro a hE
 refine q0 p71_9_3 hE (st_fieldAddr Try.underlying138 rfl tS3 rfl rfl) ?_; clear hE a; intro a hE
 refine q0 p71_9_4 hE (st_load1 tA3 rfl ((blk_cell B_g 1).trans rfl)) ?_; clear hE a; intro a hE
 refine q0 p71_9_5 hE (st_move rfl) ?_; clear hE a; intro a hE
 refine q0 p71_9_6 hE (st_add (z := ((p + k : Nat) : Int)) rfl rfl (by rw [wr_i64 _ (by omega) (by omega)]; omega)) ?_; clear hE a; intro a hE
 refine q0 p71_9_7 hE (st_nil rfl) ?_; clear hE a; intro a hE
 refine q0 p71_9_8 hE (st_fieldAddr Try.underlying138 rfl tS3 rfl rfl) ?_; clear hE a; intro a hE
 refine p_cons (s_store (off := 1) (k := 1) (cs' := #[Value.slice (if c = k then A else A.map (·.add (k * 1))) (n - k) (c - k), Value.int .i64 ((p + k : Nat) : Int), Value.int .i64 r]) p71_9_9 hE wn_none tS3 rfl rfl rfl rfl B_g (Nat.le_of_ble_eq_true rfl) rfl ?_)
 intro w2 B_g' hk
 replace K_0 := K_0.then_ hk (fun k h => by rw [show k = g from h]; exact Or.inl rfl)
 replace B_g := B_g'
 clear hk
 refine p_nil (x_norm (c_reg R71_10_l ?_))
 refine q0 p71_10_0 hE (st_move rfl) ?_; clear hE a; intro a hE
 refine q0 p71_10_1 hE (st_assign rfl) ?_; clear hE a; intro a hE
 refine p_nil (x_norm (wp_ret ?_))
 refine ret_one (v := Value.slice A k c) rfl hE (.tmp rfl .nil) ?_
 rw [hok.1] at B_g
 exact ⟨rfl, B_g, K_0⟩
theorem p71_4_0 : pj (regOf Try.f71 4) 0 = some (some 32, .move (.tmp 0), 136, none) := by kernel_rfl
theorem p71_4_1 : pj (regOf Try.f71 4) 1 = some (some 33, .nilCheck (.tmp 32), 0, none) := by kernel_rfl
theorem p71_4_2 : pj (regOf Try.f71 4) 2 = some (some 34, .fieldAddr 138 (.tmp 33) 2, 0, none) := by kernel_rfl
theorem p71_4_3 : pj (regOf Try.f71 4) 3 = some (none, .store 3 (.tmp 34) (.const (.int .i64 4)), 0, none) := by kernel_rfl
theorem p71_6_0 : pj (regOf Try.f71 6) 0 = some (some 4, .assign (.const (.slice none 0 0)), 22, none) := by kernel_rfl
set_option maxHeartbeats 4000000 in
theorem rb_no (g : Nat) (A : Option Addr) (n c : Nat) (p : Nat) (r : Int) (k : Nat) (w : World) (hok : ¬ (r = 0 ∧ k ≤ n)) (hk0 : k ≤ 1000000000) (hp : p ≤ 1000000000) (hc : n ≤ c) (B_g : w.heap[g]? = some (.cells #[.slice A n c, .int .i64 (p : Int), .int .i64 r] 138 (0, 0))) : Calls Try.prog 71 #[.pointer (some ⟨g, 0, none⟩), .int .i64 (k : Int)] w fun e w' => e = .returned (.slice none 0 0) ∧ w'.heap[g]? = some (.cells #[.slice A n c, .int .i64 (p : Int), .int .i64 (if r = 0 then 4 else r)] 138 (0, 0)) ∧ Kp w w' (fun k => k = g) := by
 have K_0 := Kp.refl w (fun k => k = g)
 refine enter (args := [Value.pointer (some ⟨g, 0, none⟩), Value.int .i64 (k : Int)]) (n := 65) Try.func71 body71 rfl rfl rfl ?_
 intro a hE
 refine c_reg R71_0_l ?_
 refine q0 p71_0_0 hE (st_assign rfl) ?_; clear hE a; intro a hE
 refine p_nil (x_norm (wp_seq (c_reg R71_1_l ?_)))
 refine q0 p71_1_0 hE (st_move rfl) ?_; clear hE a; intro a hE
 refine q0 p71_1_1 hE (st_nil rfl) ?_; clear hE a; intro a hE
 refine q0 p71_1_2 hE (st_fieldAddr Try.underlying138 rfl tS3 rfl rfl) ?_; clear hE a; intro a hE
 refine q0 p71_1_3 hE (st_load1 tA3 rfl ((blk_cell B_g 2).trans rfl)) ?_; clear hE a; intro a hE
 rcases Decidable.em (r = 0) with hc1 | hc1
 ·
  refine p_cons (s_still (v := Value.bool true) p71_1_4 hE wn_none rfl (st_eql rfl rfl (decide_eq_true hc1)) ?_); clear hE a; intro a hE
  refine q0 p71_1_5 hE (st_move rfl) ?_; clear hE a; intro a hE
  refine p_cons (s_still p71_1_6 hE (wn_some g71_1_5 rfl rfl) rfl (st_move rfl) ?_); clear hE a; intro a hE
  refine p_cons (s_still p71_1_7 hE (wn_some g71_1_5 rfl rfl) rfl (st_lss (b := false) rfl rfl (decide_eq_false (by omega))) ?_); clear hE a; intro a hE
  refine q0 p71_1_8 hE (st_pick rfl rfl) ?_; clear hE a; intro a hE
  refine p_nil (x_norm ?_)
  refine c_cond (t := false) hE rfl ?_
  refine wp_skip (x_norm (wp_seq (c_reg R71_3_l ?_)))
  refine q0 p71_3_0 hE (st_move rfl) ?_; clear hE a; intro a hE
  refine q0 p71_3_1 hE (st_nil rfl) ?_; clear hE a; intro a hE
  refine q0 p71_3_2 hE (st_fieldAddr Try.underlying138 rfl tS3 rfl rfl) ?_; clear hE a; intro a hE
  refine q0 p71_3_3 hE (st_load1 tA3 rfl ((blk_cell B_g 2).trans rfl)) ?_; clear hE a; intro a hE
  refine q0 p71_3_4 hE (st_eql (b := true) rfl rfl (decide_eq_true hc1)) ?_; clear hE a; intro a hE
  refine q0 p71_3_5 hE (st_move rfl) ?_; clear hE a; intro a hE
  refine p_cons (s_still p71_3_6 hE (wn_some g71_3_5 rfl rfl) rfl (st_move rfl) ?_); clear hE a; intro a hE
  refine p_cons (s_still p71_3_7 hE (wn_some g71_3_5 rfl rfl) rfl (st_move rfl) ?_); clear hE a; intro a hE
  refine p_cons (s_still p71_3_8 hE (wn_some g71_3_5 rfl rfl) rfl (st_nil rfl) ?_); clear hE a; intro a hE
  refine p_cons (s_still p71_3_9 hE (wn_some g71_3_5 rfl rfl) rfl (st_fieldAddr Try.underlying138 rfl tS22 rfl rfl) ?_); clear hE a; intro a hE
  refine p_cons (s_still p71_3_10 hE (wn_some g71_3_5 rfl rfl) rfl (st_load1 tA22 rfl ((blk_cell B_g 0).trans rfl)) ?_); clear hE a; intro a hE
  refine p_cons (s_still p71_3_11 hE (wn_some g71_3_5 rfl rfl) rfl (st_len Try.underlying22 rfl) ?_); clear hE a; intro a hE
  refine p_cons (s_still p71_3_12 hE (wn_some g71_3_5 rfl rfl) rfl (st_gtr (b := true) rfl rfl (decide_eq_true (by have := fun h => hok ⟨hc1, h⟩; omega))) ?_); clear hE a; intro a hE
  refine q0 p71_3_13 hE (st_pick rfl rfl) ?_; clear hE a; intro a hE
  refine p_nil (x_norm ?_)
  refine c_cond (t := true) hE rfl ?_
  refine c_regL R71_4_l ?_
  refine q0 p71_4_0 hE (st_move rfl) ?_; clear hE a; intro a hE
  refine q0 p71_4_1 hE (st_nil rfl) ?_; clear hE a; intro a hE
  refine q0 p71_4_2 hE (st_fieldAddr Try.underlying138 rfl tS3 rfl rfl) ?_; clear hE a; intro a hE
  refine p_cons (s_store (off := 2) (k := 1) (cs' := #[Value.slice A n c, Value.int .i64 (p : Int), Value.int .i64 4]) p71_4_3 hE wn_none tS3 rfl rfl rfl rfl B_g (Nat.le_of_ble_eq_true rfl) rfl ?_)
  intro w2 B_g' hk
  replace K_0 := K_0.then_ hk (fun k h => by rw [show k = g from h]; exact Or.inl rfl)
  replace B_g := B_g'
  clear hk
  refine p_nil (x_norm (wp_seq (c_reg R71_5_l ?_)))
  refine q0 p71_5_0 hE (st_move rfl) ?_; clear hE a; intro a hE
  refine q0 p71_5_1 hE (st_nil rfl) ?_; clear hE a; intro a hE
  refine q0 p71_5_2 hE (st_fieldAddr Try.underlying138 rfl tS3 rfl rfl) ?_; clear hE a; intro a hE
  refine q0 p71_5_3 hE (st_load1 tA3 rfl ((blk_cell B_g 2).trans rfl)) ?_; clear hE a; intro a hE
  refine q0 p71_5_4 hE (st_neq (b := true) rfl rfl (by decide)) ?_; clear hE a; intro a hE
  refine p_nil (x_norm ?_)
  refine c_cond (t := true) hE rfl ?_
  refine c_reg R71_6_l ?_
  refine q0 p71_6_0 hE (st_assign rfl) ?_; clear hE a; intro a hE
  refine p_nil (x_norm (wp_ret (x_ret ?_)))
  refine ret_one (v := Value.slice none 0 0) rfl hE (.tmp rfl .nil) ?_
  exact ⟨rfl, by rw [if_pos hc1]; exact B_g, K_0⟩
 ·
  refine p_cons (s_still (v := Value.bool false) p71_1_4 hE wn_none rfl (st_eql rfl rfl (decide_eq_false hc1)) ?_); clear hE a; intro a hE
  refine q0 p71_1_5 hE (st_move rfl) ?_; clear hE a; intro a hE
  refine p_cons (s_skip p71_1_6 hE (wn_some g71_1_5 rfl rfl) rfl ?_); clear hE a; intro a hE
  refine p_cons (s_skip p71_1_7 hE (wn_some g71_1_5 rfl rfl) rfl ?_); clear hE a; intro a hE
  refine q0 p71_1_8 hE (st_pick rfl rfl) ?_; clear hE a; intro a hE
  refine p_nil (x_norm ?_)
  refine c_cond (t := false) hE rfl ?_
  refine wp_skip (x_norm (wp_seq (c_reg R71_3_l ?_)))
  refine q0 p71_3_0 hE (st_move rfl) ?_; clear hE a; intro a hE
  refine q0 p71_3_1 hE (st_nil rfl) ?_; clear hE a; intro a hE
  refine q0 p71_3_2 hE (st_fieldAddr Try.underlying138 rfl tS3 rfl rfl) ?_; clear hE a; intro a hE
  refine q0 p71_3_3 hE (st_load1 tA3 rfl ((blk_cell B_g 2).trans rfl)) ?_; clear hE a; intro a hE
  refine q0 p71_3_4 hE (st_eql (b := false) rfl rfl (decide_eq_false hc1)) ?_; clear hE a; intro a hE
  refine q0 p71_3_5 hE (st_move rfl) ?_; clear hE a; intro a hE
  refine p_cons (s_skip p71_3_6 hE (wn_some g71_3_5 rfl rfl) rfl ?_); clear hE a; intro a hE
  refine p_cons (s_skip p71_3_7 hE (wn_some g71_3_5 rfl rfl) rfl ?_); clear hE a; intro a hE
  refine p_cons (s_skip p71_3_8 hE (wn_some g71_3_5 rfl rfl) rfl ?_); clear hE a; intro a hE
  refine p_cons (s_skip p71_3_9 hE (wn_some g71_3_5 rfl rfl) rfl ?_); clear hE a; intro a hE
  refine p_cons (s_skip p71_3_10 hE (wn_some g71_3_5 rfl rfl) rfl ?_); clear hE a; intro a hE
  refine p_cons (s_skip p71_3_11 hE (wn_some g71_3_5 rfl rfl) rfl ?_); clear hE a; intro a hE
  refine p_cons (s_skip p71_3_12 hE (wn_some g71_3_5 rfl rfl) rfl ?_); clear hE a; intro a hE
  refine q0 p71_3_13 hE (st_pick rfl rfl) ?_; clear hE a; intro a hE
  refine p_nil (x_norm ?_)
  refine c_cond (t := false) hE rfl ?_
  refine wp_skip (x_norm (wp_seq (c_reg R71_5_l ?_)))
  refine q0 p71_5_0 hE (st_move rfl) ?_; clear hE a; intro a hE
  refine q0 p71_5_1 hE (st_nil rfl) ?_; clear hE a; intro a hE
  refine q0 p71_5_2 hE (st_fieldAddr Try.underlying138 rfl tS3 rfl rfl) ?_; clear hE a; intro a hE
  refine q0 p71_5_3 hE (st_load1 tA3 rfl ((blk_cell B_g 2).trans rfl)) ?_; clear hE a; intro a hE
  refine q0 p71_5_4 hE (st_neq (b := true) rfl rfl (by rw [decide_eq_false hc1]; rfl)) ?_; clear hE a; intro a hE
  refine p_nil (x_norm ?_)
  refine c_cond (t := true) hE rfl ?_
  refine c_reg R71_6_l ?_
  refine q0 p71_6_0 hE (st_assign rfl) ?_; clear hE a; intro a hE
  refine p_nil (x_norm (wp_ret (x_ret ?_)))
  refine ret_one (v := Value.slice none 0 0) rfl hE (.tmp rfl .nil) ?_
  exact ⟨rfl, by rw [if_neg hc1]; exact B_g, K_0⟩
theorem R128_0_l : List.range (regOf Try.f128 0).size = [0] := by kernel_rfl
theorem R128_1_l : List.range (regOf Try.f128 1).size = [0, 1, 2, 3, 4, 5, 6, 7, 8, 9, 10] := by kernel_rfl
theorem body128 : Try.f128.body = some (.seq (.region 0 (regOf Try.f128 0) false) (.seq (.region 1 (regOf Try.f128 1) false) (.ret))) := by kernel_rfl
theorem p128_0_0 : pj (regOf Try.f128 0) 0 = some (some 2, .assign (.const (.bool false)), 4, none) := by kernel_rfl
theorem p128_1_0 : pj (regOf Try.f128 1) 0 = some (some 3, .move (.tmp 0), 3, none) := by kernel_rfl
theorem p128_1_1 : pj (regOf Try.f128 1) 1 = some (some 4, .binOp .eql 3 (.tmp 3) (.const (.int .i64 1)) 3, 4, none) := by kernel_rfl
theorem p128_1_2 : pj (regOf Try.f128 1) 2 = some (some 5, .move (.tmp 4), 4, none) := by kernel_rfl
theorem p128_1_3 : pj (regOf Try.f128 1) 3 = some (some 6, .move (.tmp 0), 3, some (2, false)) := by kernel_rfl
theorem g128_1_2 : dstOf (regOf Try.f128 1) 2 = some 5 := by kernel_rfl
theorem p128_1_4 : pj (regOf Try.f128 1) 4 = some (some 7, .binOp .eql 3 (.tmp 6) (.const (.int .i64 2)) 3, 4, some (2, false)) := by kernel_rfl
theorem p128_1_5 : pj (regOf Try.f128 1) 5 = some (some 8, .pick (.tmp 5) (.const (.bool true)) (.tmp 7), 4, none) := by kernel_rfl
theorem p128_1_6 : pj (regOf Try.f128 1) 6 = some (some 9, .move (.tmp 8), 4, none) := by kernel_rfl
theorem p128_1_7 : pj (regOf Try.f128 1) 7 = some (some 10, .move (.tmp 0), 3, some (6, false)) := by kernel_rfl
theorem g128_1_6 : dstOf (regOf Try.f128 1) 6 = some 9 := by kernel_rfl
theorem p128_1_8 : pj (regOf Try.f128 1) 8 = some (some 11, .binOp .eql 3 (.tmp 10) (.const (.int .i64 4)) 3, 4, some (6, false)) := by kernel_rfl
theorem p128_1_9 : pj (regOf Try.f128 1) 9 = some (some 12, .pick (.tmp 9) (.const (.bool true)) (.tmp 11), 4, none) := by kernel_rfl
theorem p128_1_10 : pj (regOf Try.f128 1) 10 = some (some 2, .assign (.tmp 12), 4, none) := by kernel_rfl
set_option maxHeartbeats 4000000 in
theorem rsz_c (k : Int) (hk : k = 1 ∨ k = 2 ∨ k = 4) (w : World) : Calls Try.prog 128 #[.int .i64 k] w fun e w' => e = .returned (.bool true) ∧ Kp w w' (fun _ => False) := by
 have K_0 := Kp.refl w (fun _ => False)
 refine enter (args := [Value.int .i64 k]) (n := 13) Try.func128 body128 rfl rfl rfl ?_
 intro a hE
 refine c_reg R128_0_l ?_
 refine q0 p128_0_0 hE (st_assign rfl) ?_; clear hE a; intro a hE
 refine p_nil (x_norm (c_reg R128_1_l ?_))
 refine q0 p128_1_0 hE (st_move rfl) ?_; clear hE a; intro a hE
 rcases Decidable.em (k = 1) with hc1 | hc1
 ·
  refine p_cons (s_still (v := Value.bool true) p128_1_1 hE wn_none rfl (st_eql rfl rfl (decide_eq_true hc1)) ?_); clear hE a; intro a hE
  refine q0 p128_1_2 hE (st_move rfl) ?_; clear hE a; intro a hE
  refine p_cons (s_skip p128_1_3 hE (wn_some g128_1_2 rfl rfl) rfl ?_); clear hE a; intro a hE
  refine p_cons (s_skip p128_1_4 hE (wn_some g128_1_2 rfl rfl) rfl ?_); clear hE a; intro a hE
  refine q0 p128_1_5 hE (st_pick rfl rfl) ?_; clear hE a; intro a hE
  refine q0 p128_1_6 hE (st_move rfl) ?_; clear hE a; intro a hE
  refine p_cons (s_skip p128_1_7 hE (wn_some g128_1_6 rfl rfl) rfl ?_); clear hE a; intro a hE
  refine p_cons (s_skip p128_1_8 hE (wn_some g128_1_6 rfl rfl) rfl ?_); clear hE a; intro a hE
  refine q0 p128_1_9 hE (st_pick rfl rfl) ?_; clear hE a; intro a hE
  refine q0 p128_1_10 hE (st_assign rfl) ?_; clear hE a; intro a hE
  refine p_nil (x_norm (wp_ret ?_))
  refine ret_one (v := Value.bool true) rfl hE (.tmp rfl .nil) ?_
  exact ⟨rfl, K_0⟩
 ·
  refine p_cons (s_still (v := Value.bool false) p128_1_1 hE wn_none rfl (st_eql rfl rfl (decide_eq_false hc1)) ?_); clear hE a; intro a hE
  refine q0 p128_1_2 hE (st_move rfl) ?_; clear hE a; intro a hE
  refine p_cons (s_still p128_1_3 hE (wn_some g128_1_2 rfl rfl) rfl (st_move rfl) ?_); clear hE a; intro a hE
  rcases Decidable.em (k = 2) with hc2 | hc2
  ·
   refine p_cons (s_still (v := Value.bool true) p128_1_4 hE (wn_some g128_1_2 rfl rfl) rfl (st_eql rfl rfl (decide_eq_true hc2)) ?_); clear hE a; intro a hE
   refine q0 p128_1_5 hE (st_pick rfl rfl) ?_; clear hE a; intro a hE
   refine q0 p128_1_6 hE (st_move rfl) ?_; clear hE a; intro a hE
   refine p_cons (s_skip p128_1_7 hE (wn_some g128_1_6 rfl rfl) rfl ?_); clear hE a; intro a hE
   refine p_cons (s_skip p128_1_8 hE (wn_some g128_1_6 rfl rfl) rfl ?_); clear hE a; intro a hE
   refine q0 p128_1_9 hE (st_pick rfl rfl) ?_; clear hE a; intro a hE
   refine q0 p128_1_10 hE (st_assign rfl) ?_; clear hE a; intro a hE
   refine p_nil (x_norm (wp_ret ?_))
   refine ret_one (v := Value.bool true) rfl hE (.tmp rfl .nil) ?_
   exact ⟨rfl, K_0⟩
  ·
   refine p_cons (s_still (v := Value.bool false) p128_1_4 hE (wn_some g128_1_2 rfl rfl) rfl (st_eql rfl rfl (decide_eq_false hc2)) ?_); clear hE a; intro a hE
   refine q0 p128_1_5 hE (st_pick rfl rfl) ?_; clear hE a; intro a hE
   refine q0 p128_1_6 hE (st_move rfl) ?_; clear hE a; intro a hE
   refine p_cons (s_still p128_1_7 hE (wn_some g128_1_6 rfl rfl) rfl (st_move rfl) ?_); clear hE a; intro a hE
   rcases Decidable.em (k = 4) with hc3 | hc3
   ·
    refine p_cons (s_still (v := Value.bool true) p128_1_8 hE (wn_some g128_1_6 rfl rfl) rfl (st_eql rfl rfl (decide_eq_true hc3)) ?_); clear hE a; intro a hE
    refine q0 p128_1_9 hE (st_pick rfl rfl) ?_; clear hE a; intro a hE
    refine q0 p128_1_10 hE (st_assign rfl) ?_; clear hE a; intro a hE
    refine p_nil (x_norm (wp_ret ?_))
    refine ret_one (v := Value.bool true) rfl hE (.tmp rfl .nil) ?_
    exact ⟨rfl, K_0⟩
   ·
    refine p_cons (s_still (v := Value.bool false) p128_1_8 hE (wn_some g128_1_6 rfl rfl) rfl (st_eql rfl rfl (decide_eq_false hc3)) ?_); clear hE a; intro a hE
    refine q0 p128_1_9 hE (st_pick rfl rfl) ?_; clear hE a; intro a hE
    refine q0 p128_1_10 hE (st_assign rfl) ?_; clear hE a; intro a hE
    refine p_nil (x_norm (wp_ret ?_))
    refine ret_one (v := Value.bool false) rfl hE (.tmp rfl .nil) ?_
    exact ⟨by simp; omega, K_0⟩
theorem R70_0_l : List.range (regOf Try.f70 0).size = [0] := by kernel_rfl
theorem R70_1_l : List.range (regOf Try.f70 1).size = [0, 1, 2, 3, 4, 5, 6, 7, 8, 9] := by kernel_rfl
theorem R70_3_l : List.range (regOf Try.f70 3).size = [0, 1, 2, 3] := by kernel_rfl
theorem R70_4_l : List.range (regOf Try.f70 4).size = [0] := by kernel_rfl
theorem R70_5_l : List.range (regOf Try.f70 5).size = [0] := by kernel_rfl
theorem R70_6_l : List.range (regOf Try.f70 6).size = [0, 1, 2, 3] := by kernel_rfl
theorem R70_8_l : List.range (regOf Try.f70 8).size = [0, 1, 2, 3, 4, 5, 6, 7, 8] := by kernel_rfl
theorem R70_7_l : List.range (regOf Try.f70 7).size = [0, 1, 2] := by kernel_rfl
theorem R70_9_l : List.range (regOf Try.f70 9).size = [0, 1] := by kernel_rfl
theorem body70 : Try.f70.body = some (.seq (.region 0 (regOf Try.f70 0) false) (.seq (.seq (.region 1 (regOf Try.f70 1) false) (.cond (Operand.tmp 17) (.region 2 (regOf Try.f70 2) false) (.skip))) (.seq (.region 3 (regOf Try.f70 3) false) (.seq (.region 4 (regOf Try.f70 4) false) (.seq (.seq (.region 5 (regOf Try.f70 5) false) (.block 0 (.loop (.seq (.seq (.region 6 (regOf Try.f70 6) false) (.cond (Operand.tmp 27) (.skip) (.exit 0))) (.seq (.block 1 (.region 8 (regOf Try.f70 8) false)) (.region 7 (regOf Try.f70 7) false)))))) (.seq (.region 9 (regOf Try.f70 9) false) (.ret))))))) := by kernel_rfl
theorem p70_0_0 : pj (regOf Try.f70 0) 0 = some (some 4, .assign (.const (.int .i64 0)), 3, none) := by kernel_rfl
theorem p70_1_0 : pj (regOf Try.f70 1) 0 = some (some 8, .move (.tmp 0), 136, none) := by kernel_rfl
theorem p70_1_1 : pj (regOf Try.f70 1) 1 = some (some 9, .nilCheck (.tmp 8), 0, none) := by kernel_rfl
theorem p70_1_2 : pj (regOf Try.f70 1) 2 = some (some 10, .fieldAddr 138 (.tmp 9) 2, 0, none) := by kernel_rfl
theorem p70_1_3 : pj (regOf Try.f70 1) 3 = some (some 11, .load 3 (.tmp 10), 3, none) := by kernel_rfl
theorem p70_1_4 : pj (regOf Try.f70 1) 4 = some (some 12, .binOp .eql 3 (.tmp 11) (.const (.int .i64 0)) 3, 4, none) := by kernel_rfl
theorem p70_1_5 : pj (regOf Try.f70 1) 5 = some (some 13, .move (.tmp 12), 4, none) := by kernel_rfl
theorem p70_1_6 : pj (regOf Try.f70 1) 6 = some (some 14, .move (.tmp 1), 3, some (5, true)) := by kernel_rfl
theorem g70_1_5 : dstOf (regOf Try.f70 1) 5 = some 13 := by kernel_rfl
theorem p70_1_7 : pj (regOf Try.f70 1) 7 = some (some 15, .call { callee := .value (.func 128), args := #[.tmp 14], argTypes := #[3] }, 4, some (5, true)) := by kernel_rfl
theorem cl128 : callable Try.f128 = true := by kernel_rfl
theorem p70_1_8 : pj (regOf Try.f70 1) 8 = some (some 16, .unOp .not 4 (.tmp 15), 4, some (5, true)) := by kernel_rfl
theorem p70_1_9 : pj (regOf Try.f70 1) 9 = some (some 17, .pick (.tmp 13) (.tmp 16) (.const (.bool false)), 4, none) := by kernel_rfl
theorem p70_3_0 : pj (regOf Try.f70 3) 0 = some (some 21, .move (.tmp 0), 136, none) := by kernel_rfl
theorem p70_3_1 : pj (regOf Try.f70 3) 1 = some (some 22, .move (.tmp 1), 3, none) := by kernel_rfl
theorem p70_3_2 : pj (regOf Try.f70 3) 2 = some (some 23, .call { callee := .value (.func 71), args := #[.tmp 21, .tmp 22], argTypes := #[136, 3] }, 22, none) := by kernel_rfl
theorem cl71 : callable Try.f71 = true := by kernel_rfl
theorem p70_3_3 : pj (regOf Try.f70 3) 3 = some (some 5, .assign (.tmp 23), 22, none) := by kernel_rfl
theorem p70_4_0 : pj (regOf Try.f70 4) 0 = some (some 6, .assign (.const (.int .i64 0)), 3, none) := by kernel_rfl
theorem p70_5_0 : pj (regOf Try.f70 5) 0 = some (some 7, .assign (.const (.int .i64 0)), 3, none) := by kernel_rfl
theorem p70_6_0 : pj (regOf Try.f70 6) 0 = some (some 24, .move (.tmp 7), 3, none) := by kernel_rfl
theorem p70_6_1 : pj (regOf Try.f70 6) 1 = some (some 25, .move (.tmp 5), 22, none) := by kernel_rfl
theorem p70_6_2 : pj (regOf Try.f70 6) 2 = some (some 26, .call { callee := .builtin .len, args := #[.tmp 25], argTypes := #[22] }, 3, none) := by kernel_rfl
theorem p70_6_3 : pj (regOf Try.f70 6) 3 = some (some 27, .binOp .lss 3 (.tmp 24) (.tmp 26) 3, 4, none) := by kernel_rfl
theorem p70_8_0 : pj (regOf Try.f70 8) 0 = some (some 30, .move (.tmp 6), 3, none) := by kernel_rfl
theorem p70_8_1 : pj (regOf Try.f70 8) 1 = some (some 31, .binOp .mul 3 (.const (.int .i64 256)) (.tmp 30) 3, 3, none) := by kernel_rfl
theorem p70_8_2 : pj (regOf Try.f70 8) 2 = some (some 32, .move (.tmp 5), 22, none) := by kernel_rfl
theorem p70_8_3 : pj (regOf Try.f70 8) 3 = some (some 33, .move (.tmp 7), 3, none) := by kernel_rfl
theorem p70_8_4 : pj (regOf Try.f70 8) 4 = some (some 34, .indexAddr 22 (.tmp 32) (.tmp 33), 0, none) := by kernel_rfl
theorem p70_8_5 : pj (regOf Try.f70 8) 5 = some (some 35, .load 5 (.tmp 34), 5, none) := by kernel_rfl
theorem tA5 : (Try.prog.underlying 5).map aggD = some false := by kernel_rfl
theorem p70_8_6 : pj (regOf Try.f70 8) 6 = some (some 36, .convert 5 3 (.tmp 35), 3, none) := by kernel_rfl
theorem p70_8_7 : pj (regOf Try.f70 8) 7 = some (some 37, .binOp .add 3 (.tmp 31) (.tmp 36) 3, 3, none) := by kernel_rfl
theorem p70_8_8 : pj (regOf Try.f70 8) 8 = some (some 6, .assign (.tmp 37), 3, none) := by kernel_rfl
theorem p70_7_0 : pj (regOf Try.f70 7) 0 = some (some 28, .move (.tmp 7), 3, none) := by kernel_rfl
theorem p70_7_1 : pj (regOf Try.f70 7) 1 = some (some 29, .binOp .add 3 (.tmp 28) (.const (.int .i64 1)) 3, 3, none) := by kernel_rfl
theorem p70_7_2 : pj (regOf Try.f70 7) 2 = some (some 7, .assign (.tmp 29), 3, none) := by kernel_rfl
theorem p70_9_0 : pj (regOf Try.f70 9) 0 = some (some 38, .move (.tmp 6), 3, none) := by kernel_rfl
theorem p70_9_1 : pj (regOf Try.f70 9) 1 = some (some 4, .assign (.tmp 38), 3, none) := by kernel_rfl
set_option maxHeartbeats 4000000 in
theorem rt_ok (g : Nat) (A : Option Addr) (n c : Nat) (p : Nat) (r : Int) (k : Nat) (w : World) (hok : (r = 0 ∧ k ≤ n)) (hs : (k : Int) = 1 ∨ (k : Int) = 2 ∨ (k : Int) = 4) (hp : p ≤ 1000000000) (hc : n ≤ c) (l : List Int) (hln : l.length = n) (hb : isB l) (F_A : ∀ W', Kp w W' (fun k => k = g) → Kd.C (Kd.int .u8) W' A n l) (B_g : w.heap[g]? = some (.cells #[.slice A n c, .int .i64 (p : Int), .int .i64 r] 138 (0, 0))) : Calls Try.prog 70 #[.pointer (some ⟨g, 0, none⟩), .int .i64 (k : Int)] w fun e w' => e = .returned (.int .i64 (joinF (l.take k))) ∧ w'.heap[g]? = some (.cells #[.slice (if c = k then A else A.map (·.add (k * 1))) (n - k) (c - k), .int .i64 ((p + k : Nat) : Int), .int .i64 0] 138 (0, 0)) ∧ Kp w w' (fun k => k = g) := by
 have K_0 := Kp.refl w (fun k => k = g)
 have hltk : (l.take k).length = k := by rw [List.length_take]; omega
 refine enter (args := [Value.pointer (some ⟨g, 0, none⟩), Value.int .i64 (k : Int)]) (n := 39) Try.func70 body70 rfl rfl rfl ?_
 intro a hE
 refine c_reg R70_0_l ?_
 refine q0 p70_0_0 hE (st_assign rfl) ?_; clear hE a; intro a hE
 refine p_nil (x_norm (wp_seq (c_reg R70_1_l ?_)))
 refine q0 p70_1_0 hE (st_move rfl) ?_; clear hE a; intro a hE
 refine q0 p70_1_1 hE (st_nil rfl) ?_; clear hE a; intro a hE
 refine q0 p70_1_2 hE (st_fieldAddr Try.underlying138 rfl tS3 rfl rfl) ?_; clear hE a; intro a hE
 refine q0 p70_1_3 hE (st_load1 tA3 rfl ((blk_cell B_g 2).trans rfl)) ?_; clear hE a; intro a hE
 rcases Decidable.em (r = 0) with hc1 | hc1
 ·
  refine p_cons (s_still (v := Value.bool true) p70_1_4 hE wn_none rfl (st_eql rfl rfl (decide_eq_true hc1)) ?_); clear hE a; intro a hE
  refine q0 p70_1_5 hE (st_move rfl) ?_; clear hE a; intro a hE
  refine p_cons (s_still p70_1_6 hE (wn_some g70_1_5 rfl rfl) rfl (st_move rfl) ?_); clear hE a; intro a hE
  refine p_cons (s_call (xs := [Operand.tmp 14]) (args := [Value.int .i64 (k : Int)]) p70_1_7 hE (wn_some g70_1_5 rfl rfl) rfl rfl Try.func128 cl128 (rsz_c (k : Int) hs _) ?_)
  rintro e w2 ⟨rfl, hk⟩
  replace B_g := kp_blk B_g hk (fun h => h)
  replace K_0 := K_0.then_ hk (fun _ h => h.elim)
  refine ⟨_, rfl, ?_⟩; clear hE a; intro a hE
  refine p_cons (s_still p70_1_8 hE (wn_some g70_1_5 rfl rfl) rfl (st_not rfl rfl) ?_); clear hE a; intro a hE
  refine q0 p70_1_9 hE (st_pick rfl rfl) ?_; clear hE a; intro a hE
  refine p_nil (x_norm ?_)
  refine c_cond (t := false) hE rfl ?_
  refine wp_skip (x_norm (c_reg R70_3_l ?_))
  refine q0 p70_3_0 hE (st_move rfl) ?_; clear hE a; intro a hE
  refine q0 p70_3_1 hE (st_move rfl) ?_; clear hE a; intro a hE
  refine p_cons (s_call (xs := [Operand.tmp 21, Operand.tmp 22]) (args := [Value.pointer (some ⟨g, 0, none⟩), Value.int .i64 (k : Int)]) p70_3_2 hE wn_none rfl rfl Try.func71 cl71 (rb_ok g A n c p r k _ hok (by omega) hp hc B_g) ?_)
  rintro e w3 ⟨rfl, B_g', hk⟩
  replace K_0 := K_0.then_ hk (fun k h => by rw [show k = g from h]; exact Or.inl rfl)
  replace B_g := B_g'
  refine ⟨_, rfl, ?_⟩; clear hE a; intro a hE
  refine q0 p70_3_3 hE (st_assign rfl) ?_; clear hE a; intro a hE
  refine p_nil (x_norm (c_reg R70_4_l ?_))
  refine q0 p70_4_0 hE (st_assign rfl) ?_; clear hE a; intro a hE
  refine p_nil (x_norm (wp_seq (c_reg R70_5_l ?_)))
  refine q0 p70_5_0 hE (st_assign rfl) ?_; clear hE a; intro a hE
  refine p_nil (x_norm (wp_block ?_))
  refine c_loop (α := Nat) (fun j a W => En 39 a [(0, Value.pointer (some ⟨g, 0, none⟩)), (1, Value.int .i64 (k : Int)), (4, Value.int .i64 0), (17, Value.bool false), (5, Value.slice A k c), (7, Value.int .i64 (j : Int)), (6, Value.int .i64 (joinF ((l.take k).take j)))] ∧ j ≤ k ∧ W.heap[g]? = some (.cells #[Value.slice (if c = k then A else A.map (·.add (k * 1))) (n - k) (c - k), Value.int .i64 ((p + k : Nat) : Int), Value.int .i64 0] 138 (0, 0)) ∧ Kp w W (fun k => k = g)) (fun j => k - j) (0) ?_ ?_
  ·
   exact ⟨En.sub hE ⟨rfl, rfl, rfl, rfl, rfl, rfl, rfl, trivial⟩, Nat.zero_le _, B_g, K_0⟩
  ·
   clear hE a
   rintro j a w4 ⟨hE, hj9, B_g, K_0⟩
   refine wp_seq (c_reg R70_6_l ?_)
   refine q0 p70_6_0 hE (st_move rfl) ?_; clear hE a; intro a hE
   refine q0 p70_6_1 hE (st_move rfl) ?_; clear hE a; intro a hE
   refine q0 p70_6_2 hE (st_len Try.underlying22 rfl) ?_; clear hE a; intro a hE
   rcases Decidable.em ((j : Int) < (k : Int)) with hc5 | hc5
   ·
    refine p_cons (s_still (v := Value.bool true) p70_6_3 hE wn_none rfl (st_lss rfl rfl (decide_eq_true hc5)) ?_); clear hE a; intro a hE
    refine p_nil (x_norm ?_)
    refine c_cond (t := true) hE rfl ?_
    refine wp_skip (x_norm (wp_seq (wp_block (c_regL R70_8_l ?_))))
    have hjl : j < (l.take k).length := by omega
    have hjb := join_bd ((l.take k).take j) (isB_take (isB_take hb k) j) (by rw [List.length_take]; omega)
    have hrb := isB_rd (isB_take hb k) hjl
    refine q0 p70_8_0 hE (st_move rfl) ?_; clear hE a; intro a hE
    refine q0 p70_8_1 hE (st_mul (z := 256 * (joinF ((l.take k).take j))) rfl rfl (wr_i64 _ (by omega) (by omega))) ?_; clear hE a; intro a hE
    refine q0 p70_8_2 hE (st_move rfl) ?_; clear hE a; intro a hE
    refine q0 p70_8_3 hE (st_move rfl) ?_; clear hE a; intro a hE
    refine q0 p70_8_4 hE (st_indexAddrC (i := j) Try.underlying22 tS5 (C_take9 (F_A _ K_0) hok.2) rfl rfl (by omega)) ?_; clear hE a; intro a hE
    refine q0 (v := Value.int .u8 (rd (l.take k) (j : Int))) p70_8_5 hE (st_loadC (i := j) tA5 (C_take9 (F_A _ K_0) hok.2) (by omega) rfl) ?_; clear hE a; intro a hE
    refine q0 p70_8_6 hE (st_conv (z := (rd (l.take k) (j : Int))) (by kernel_rfl) Try.underlying3 rfl (wr_i64 _ (by omega) (by omega))) ?_; clear hE a; intro a hE
    refine q0 p70_8_7 hE (st_add (z := (256 * (joinF ((l.take k).take j))) + (rd (l.take k) (j : Int))) rfl rfl (wr_i64 _ (by omega) (by omega))) ?_; clear hE a; intro a hE
    refine q0 p70_8_8 hE (st_assign rfl) ?_; clear hE a; intro a hE
    refine p_nil (x_normB (x_norm (c_regL R70_7_l ?_)))
    refine q0 p70_7_0 hE (st_move rfl) ?_; clear hE a; intro a hE
    refine q0 p70_7_1 hE (st_add (z := (j : Int) + 1) rfl rfl (wr_i64 _ (by omega) (by omega))) ?_; clear hE a; intro a hE
    refine q0 p70_7_2 hE (st_assign rfl) ?_; clear hE a; intro a hE
    refine p_nil (x_norm ?_)
    have e9 : 256 * joinF ((l.take k).take j) + rd (l.take k) (j : Int) = joinF ((l.take k).take (j + 1)) := by rw [join_take (l.take k) j (by omega)]; omega
    exact ⟨j + 1, by omega, En.sub hE ⟨rfl, rfl, rfl, rfl, rfl, rfl, (by rw [e9]; rfl), trivial⟩, by omega, B_g, K_0⟩
   ·
    refine p_cons (s_still (v := Value.bool false) p70_6_3 hE wn_none rfl (st_lss rfl rfl (decide_eq_false hc5)) ?_); clear hE a; intro a hE
    refine p_nil (x_norm ?_)
    refine c_cond (t := false) hE rfl ?_
    refine wp_exit (x_exit (x_exit (x_in (x_norm (c_reg R70_9_l ?_)))))
    refine q0 p70_9_0 hE (st_move rfl) ?_; clear hE a; intro a hE
    refine q0 p70_9_1 hE (st_assign rfl) ?_; clear hE a; intro a hE
    refine p_nil (x_norm (wp_ret ?_))
    refine ret_one (v := Value.int .i64 (joinF ((l.take k).take j))) rfl hE (.tmp rfl .nil) ?_
    obtain rfl : j = k := by omega
    exact ⟨by rw [List.take_of_length_le (by omega)], B_g, K_0⟩
 ·
  refine p_cons (s_still (v := Value.bool false) p70_1_4 hE wn_none rfl (st_eql rfl rfl (decide_eq_false hc1)) ?_); clear hE a; intro a hE
  refine q0 p70_1_5 hE (st_move rfl) ?_; clear hE a; intro a hE
  refine p_cons (s_skip p70_1_6 hE (wn_some g70_1_5 rfl rfl) rfl ?_); clear hE a; intro a hE
  refine p_cons (s_skip p70_1_7 hE (wn_some g70_1_5 rfl rfl) rfl ?_); clear hE a; intro a hE
  refine p_cons (s_skip p70_1_8 hE (wn_some g70_1_5 rfl rfl) rfl ?_); clear hE a; intro a hE
  refine q0 p70_1_9 hE (st_pick rfl rfl) ?_; clear hE a; intro a hE
  refine p_nil (x_norm ?_)
  refine c_cond (t := false) hE rfl ?_
  refine wp_skip (x_norm (c_reg R70_3_l ?_))
  refine q0 p70_3_0 hE (st_move rfl) ?_; clear hE a; intro a hE
  refine q0 p70_3_1 hE (st_move rfl) ?_; clear hE a; intro a hE
  refine p_cons (s_call (xs := [Operand.tmp 21, Operand.tmp 22]) (args := [Value.pointer (some ⟨g, 0, none⟩), Value.int .i64 (k : Int)]) p70_3_2 hE wn_none rfl rfl Try.func71 cl71 (rb_ok g A n c p r k _ hok (by omega) hp hc B_g) ?_)
  rintro e w6 ⟨rfl, B_g', hk⟩
  replace K_0 := K_0.then_ hk (fun k h => by rw [show k = g from h]; exact Or.inl rfl)
  replace B_g := B_g'
  refine ⟨_, rfl, ?_⟩; clear hE a; intro a hE
  refine q0 p70_3_3 hE (st_assign rfl) ?_; clear hE a; intro a hE
  refine p_nil (x_norm (c_reg R70_4_l ?_))
  refine q0 p70_4_0 hE (st_assign rfl) ?_; clear hE a; intro a hE
  refine p_nil (x_norm (wp_seq (c_reg R70_5_l ?_)))
  refine q0 p70_5_0 hE (st_assign rfl) ?_; clear hE a; intro a hE
  refine p_nil (x_norm (wp_block ?_))
  refine c_loop (α := Nat) (fun j a W => En 39 a [(0, Value.pointer (some ⟨g, 0, none⟩)), (1, Value.int .i64 (k : Int)), (4, Value.int .i64 0), (17, Value.bool false), (5, Value.slice A k c), (7, Value.int .i64 (j : Int)), (6, Value.int .i64 (joinF ((l.take k).take j)))] ∧ j ≤ k ∧ W.heap[g]? = some (.cells #[Value.slice (if c = k then A else A.map (·.add (k * 1))) (n - k) (c - k), Value.int .i64 ((p + k : Nat) : Int), Value.int .i64 0] 138 (0, 0)) ∧ Kp w W (fun k => k = g)) (fun j => k - j) (0) ?_ ?_
  ·
   exact ⟨En.sub hE ⟨rfl, rfl, rfl, rfl, rfl, rfl, rfl, trivial⟩, Nat.zero_le _, B_g, K_0⟩
  ·
   clear hE a
   rintro j a w7 ⟨hE, hj9, B_g, K_0⟩
   refine wp_seq (c_reg R70_6_l ?_)
   refine q0 p70_6_0 hE (st_move rfl) ?_; clear hE a; intro a hE
   refine q0 p70_6_1 hE (st_move rfl) ?_; clear hE a; intro a hE
   refine q0 p70_6_2 hE (st_len Try.underlying22 rfl) ?_; clear hE a; intro a hE
   rcases Decidable.em ((j : Int) < (k : Int)) with hc8 | hc8
   ·
    refine p_cons (s_still (v := Value.bool true) p70_6_3 hE wn_none rfl (st_lss rfl rfl (decide_eq_true hc8)) ?_); clear hE a; intro a hE
    refine p_nil (x_norm ?_)
    refine c_cond (t := true) hE rfl ?_
    refine wp_skip (x_norm (wp_seq (wp_block (c_regL R70_8_l ?_))))
    have hjl : j < (l.take k).length := by omega
    have hjb := join_bd ((l.take k).take j) (isB_take (isB_take hb k) j) (by rw [List.length_take]; omega)
    have hrb := isB_rd (isB_take hb k) hjl
    refine q0 p70_8_0 hE (st_move rfl) ?_; clear hE a; intro a hE
    refine q0 p70_8_1 hE (st_mul (z := 256 * (joinF ((l.take k).take j))) rfl rfl (wr_i64 _ (by omega) (by omega))) ?_; clear hE a; intro a hE
    refine q0 p70_8_2 hE (st_move rfl) ?_; clear hE a; intro a hE
    refine q0 p70_8_3 hE (st_move rfl) ?_; clear hE a; intro a hE
    refine q0 p70_8_4 hE (st_indexAddrC (i := j) Try.underlying22 tS5 (C_take9 (F_A _ K_0) hok.2) rfl rfl (by omega)) ?_; clear hE a; intro a hE
    refine q0 (v := Value.int .u8 (rd (l.take k) (j : Int))) p70_8_5 hE (st_loadC (i := j) tA5 (C_take9 (F_A _ K_0) hok.2) (by omega) rfl) ?_; clear hE a; intro a hE
    refine q0 p70_8_6 hE (st_conv (z := (rd (l.take k) (j : Int))) (by kernel_rfl) Try.underlying3 rfl (wr_i64 _ (by omega) (by omega))) ?_; clear hE a; intro a hE
    refine q0 p70_8_7 hE (st_add (z := (256 * (joinF ((l.take k).take j))) + (rd (l.take k) (j : Int))) rfl rfl (wr_i64 _ (by omega) (by omega))) ?_; clear hE a; intro a hE
    refine q0 p70_8_8 hE (st_assign rfl) ?_; clear hE a; intro a hE
    refine p_nil (x_normB (x_norm (c_regL R70_7_l ?_)))
    refine q0 p70_7_0 hE (st_move rfl) ?_; clear hE a; intro a hE
    refine q0 p70_7_1 hE (st_add (z := (j : Int) + 1) rfl rfl (wr_i64 _ (by omega) (by omega))) ?_; clear hE a; intro a hE
    refine q0 p70_7_2 hE (st_assign rfl) ?_; clear hE a; intro a hE
    refine p_nil (x_norm ?_)
    have e9 : 256 * joinF ((l.take k).take j) + rd (l.take k) (j : Int) = joinF ((l.take k).take (j + 1)) := by rw [join_take (l.take k) j (by omega)]; omega
    exact ⟨j + 1, by omega, En.sub hE ⟨rfl, rfl, rfl, rfl, rfl, rfl, (by rw [e9]; rfl), trivial⟩, by omega, B_g, K_0⟩
   ·
    refine p_cons (s_still (v := Value.bool false) p70_6_3 hE wn_none rfl (st_lss rfl rfl (decide_eq_false hc8)) ?_); clear hE a; intro a hE
    refine p_nil (x_norm ?_)
    refine c_cond (t := false) hE rfl ?_
    refine wp_exit (x_exit (x_exit (x_in (x_norm (c_reg R70_9_l ?_)))))
    refine q0 p70_9_0 hE (st_move rfl) ?_; clear hE a; intro a hE
    refine q0 p70_9_1 hE (st_assign rfl) ?_; clear hE a; intro a hE
    refine p_nil (x_norm (wp_ret ?_))
    refine ret_one (v := Value.int .i64 (joinF ((l.take k).take j))) rfl hE (.tmp rfl .nil) ?_
    obtain rfl : j = k := by omega
    exact ⟨by rw [List.take_of_length_le (by omega)], B_g, K_0⟩

set_option maxHeartbeats 4000000 in
theorem rt_no (g : Nat) (A : Option Addr) (n c : Nat) (p : Nat) (r : Int) (k : Nat) (w : World) (hok : ¬ (r = 0 ∧ k ≤ n)) (hs : (k : Int) = 1 ∨ (k : Int) = 2 ∨ (k : Int) = 4) (hp : p ≤ 1000000000) (hc : n ≤ c)  (B_g : w.heap[g]? = some (.cells #[.slice A n c, .int .i64 (p : Int), .int .i64 r] 138 (0, 0))) : Calls Try.prog 70 #[.pointer (some ⟨g, 0, none⟩), .int .i64 (k : Int)] w fun e w' => e = .returned (.int .i64 0) ∧ w'.heap[g]? = some (.cells #[.slice A n c, .int .i64 (p : Int), .int .i64 (if r = 0 then 4 else r)] 138 (0, 0)) ∧ Kp w w' (fun k => k = g) := by
 have K_0 := Kp.refl w (fun k => k = g)
 refine enter (args := [Value.pointer (some ⟨g, 0, none⟩), Value.int .i64 (k : Int)]) (n := 39) Try.func70 body70 rfl rfl rfl ?_
 intro a hE
 refine c_reg R70_0_l ?_
 refine q0 p70_0_0 hE (st_assign rfl) ?_; clear hE a; intro a hE
 refine p_nil (x_norm (wp_seq (c_reg R70_1_l ?_)))
 refine q0 p70_1_0 hE (st_move rfl) ?_; clear hE a; intro a hE
 refine q0 p70_1_1 hE (st_nil rfl) ?_; clear hE a; intro a hE
 refine q0 p70_1_2 hE (st_fieldAddr Try.underlying138 rfl tS3 rfl rfl) ?_; clear hE a; intro a hE
 refine q0 p70_1_3 hE (st_load1 tA3 rfl ((blk_cell B_g 2).trans rfl)) ?_; clear hE a; intro a hE
 rcases Decidable.em (r = 0) with hc1 | hc1
 ·
  refine p_cons (s_still (v := Value.bool true) p70_1_4 hE wn_none rfl (st_eql rfl rfl (decide_eq_true hc1)) ?_); clear hE a; intro a hE
  refine q0 p70_1_5 hE (st_move rfl) ?_; clear hE a; intro a hE
  refine p_cons (s_still p70_1_6 hE (wn_some g70_1_5 rfl rfl) rfl (st_move rfl) ?_); clear hE a; intro a hE
  refine p_cons (s_call (xs := [Operand.tmp 14]) (args := [Value.int .i64 (k : Int)]) p70_1_7 hE (wn_some g70_1_5 rfl rfl) rfl rfl Try.func128 cl128 (rsz_c (k : Int) hs _) ?_)
  rintro e w2 ⟨rfl, hk⟩
  replace B_g := kp_blk B_g hk (fun h => h)
  replace K_0 := K_0.then_ hk (fun _ h => h.elim)
  refine ⟨_, rfl, ?_⟩; clear hE a; intro a hE
  refine p_cons (s_still p70_1_8 hE (wn_some g70_1_5 rfl rfl) rfl (st_not rfl rfl) ?_); clear hE a; intro a hE
  refine q0 p70_1_9 hE (st_pick rfl rfl) ?_; clear hE a; intro a hE
  refine p_nil (x_norm ?_)
  refine c_cond (t := false) hE rfl ?_
  refine wp_skip (x_norm (c_reg R70_3_l ?_))
  refine q0 p70_3_0 hE (st_move rfl) ?_; clear hE a; intro a hE
  refine q0 p70_3_1 hE (st_move rfl) ?_; clear hE a; intro a hE
  refine p_cons (s_call (xs := [Operand.tmp 21, Operand.tmp 22]) (args := [Value.pointer (some ⟨g, 0, none⟩), Value.int .i64 (k : Int)]) p70_3_2 hE wn_none rfl rfl Try.func71 cl71 (rb_no g A n c p r k _ hok (by omega) hp hc B_g) ?_)
  rintro e w3 ⟨rfl, B_g', hk⟩
  replace K_0 := K_0.then_ hk (fun k h => by rw [show k = g from h]; exact Or.inl rfl)
  replace B_g := B_g'
  refine ⟨_, rfl, ?_⟩; clear hE a; intro a hE
  refine q0 p70_3_3 hE (st_assign rfl) ?_; clear hE a; intro a hE
  refine p_nil (x_norm (c_reg R70_4_l ?_))
  refine q0 p70_4_0 hE (st_assign rfl) ?_; clear hE a; intro a hE
  refine p_nil (x_norm (wp_seq (c_reg R70_5_l ?_)))
  refine q0 p70_5_0 hE (st_assign rfl) ?_; clear hE a; intro a hE
  refine p_nil (x_norm (wp_block ?_))
  refine wp_loop_rounds 1 ?_
  refine (Eq.mpr (rounds_succ (n := 0)) ?_)
  refine wp_seq (c_reg R70_6_l ?_)
  refine q0 p70_6_0 hE (st_move rfl) ?_; clear hE a; intro a hE
  refine q0 p70_6_1 hE (st_move rfl) ?_; clear hE a; intro a hE
  refine q0 p70_6_2 hE (st_len Try.underlying22 rfl) ?_; clear hE a; intro a hE
  refine q0 p70_6_3 hE (st_lss (b := false) rfl rfl (by decide)) ?_; clear hE a; intro a hE
  refine p_nil (x_norm ?_)
  refine c_cond (t := false) hE rfl ?_
  refine wp_exit (x_exit (x_exit (x_in (x_norm (c_reg R70_9_l ?_)))))
  refine q0 p70_9_0 hE (st_move rfl) ?_; clear hE a; intro a hE
  refine q0 p70_9_1 hE (st_assign rfl) ?_; clear hE a; intro a hE
  refine p_nil (x_norm (wp_ret ?_))
  refine ret_one (v := Value.int .i64 0) rfl hE (.tmp rfl .nil) ?_
  exact ⟨rfl, B_g, K_0⟩
 ·
  refine p_cons (s_still (v := Value.bool false) p70_1_4 hE wn_none rfl (st_eql rfl rfl (decide_eq_false hc1)) ?_); clear hE a; intro a hE
  refine q0 p70_1_5 hE (st_move rfl) ?_; clear hE a; intro a hE
  refine p_cons (s_skip p70_1_6 hE (wn_some g70_1_5 rfl rfl) rfl ?_); clear hE a; intro a hE
  refine p_cons (s_skip p70_1_7 hE (wn_some g70_1_5 rfl rfl) rfl ?_); clear hE a; intro a hE
  refine p_cons (s_skip p70_1_8 hE (wn_some g70_1_5 rfl rfl) rfl ?_); clear hE a; intro a hE
  refine q0 p70_1_9 hE (st_pick rfl rfl) ?_; clear hE a; intro a hE
  refine p_nil (x_norm ?_)
  refine c_cond (t := false) hE rfl ?_
  refine wp_skip (x_norm (c_reg R70_3_l ?_))
  refine q0 p70_3_0 hE (st_move rfl) ?_; clear hE a; intro a hE
  refine q0 p70_3_1 hE (st_move rfl) ?_; clear hE a; intro a hE
  refine p_cons (s_call (xs := [Operand.tmp 21, Operand.tmp 22]) (args := [Value.pointer (some ⟨g, 0, none⟩), Value.int .i64 (k : Int)]) p70_3_2 hE wn_none rfl rfl Try.func71 cl71 (rb_no g A n c p r k _ hok (by omega) hp hc B_g) ?_)
  rintro e w4 ⟨rfl, B_g', hk⟩
  replace K_0 := K_0.then_ hk (fun k h => by rw [show k = g from h]; exact Or.inl rfl)
  replace B_g := B_g'
  refine ⟨_, rfl, ?_⟩; clear hE a; intro a hE
  refine q0 p70_3_3 hE (st_assign rfl) ?_; clear hE a; intro a hE
  refine p_nil (x_norm (c_reg R70_4_l ?_))
  refine q0 p70_4_0 hE (st_assign rfl) ?_; clear hE a; intro a hE
  refine p_nil (x_norm (wp_seq (c_reg R70_5_l ?_)))
  refine q0 p70_5_0 hE (st_assign rfl) ?_; clear hE a; intro a hE
  refine p_nil (x_norm (wp_block ?_))
  refine wp_loop_rounds 1 ?_
  refine (Eq.mpr (rounds_succ (n := 0)) ?_)
  refine wp_seq (c_reg R70_6_l ?_)
  refine q0 p70_6_0 hE (st_move rfl) ?_; clear hE a; intro a hE
  refine q0 p70_6_1 hE (st_move rfl) ?_; clear hE a; intro a hE
  refine q0 p70_6_2 hE (st_len Try.underlying22 rfl) ?_; clear hE a; intro a hE
  refine q0 p70_6_3 hE (st_lss (b := false) rfl rfl (by decide)) ?_; clear hE a; intro a hE
  refine p_nil (x_norm ?_)
  refine c_cond (t := false) hE rfl ?_
  refine wp_exit (x_exit (x_exit (x_in (x_norm (c_reg R70_9_l ?_)))))
  refine q0 p70_9_0 hE (st_move rfl) ?_; clear hE a; intro a hE
  refine q0 p70_9_1 hE (st_assign rfl) ?_; clear hE a; intro a hE
  refine p_nil (x_norm (wp_ret ?_))
  refine ret_one (v := Value.int .i64 0) rfl hE (.tmp rfl .nil) ?_
  exact ⟨rfl, B_g, K_0⟩
def rclF (n : Nat) (r : Int) : Int := if r = 0 then (if 0 < n then 3 else r) else r
theorem R113_0_l : List.range (regOf Try.f113 0).size = [0] := by kernel_rfl
theorem R113_1_l : List.range (regOf Try.f113 1).size = [0, 1, 2, 3, 4, 5, 6, 7, 8, 9, 10, 11, 12] := by kernel_rfl
theorem R113_2_l : List.range (regOf Try.f113 2).size = [0] := by kernel_rfl
theorem R113_3_l : List.range (regOf Try.f113 3).size = [0, 1, 2, 3, 4] := by kernel_rfl
theorem body113 : Try.f113.body = some (.seq (.region 0 (regOf Try.f113 0) false) (.seq (.seq (.region 1 (regOf Try.f113 1) false) (.cond (Operand.tmp 15) (.seq (.region 2 (regOf Try.f113 2) false) (.ret)) (.skip))) (.seq (.region 3 (regOf Try.f113 3) false) (.ret)))) := by kernel_rfl
theorem p113_0_0 : pj (regOf Try.f113 0) 0 = some (some 2, .assign (.const (.int .i64 0)), 3, none) := by kernel_rfl
theorem p113_1_0 : pj (regOf Try.f113 1) 0 = some (some 3, .move (.tmp 0), 136, none) := by kernel_rfl
theorem p113_1_1 : pj (regOf Try.f113 1) 1 = some (some 4, .nilCheck (.tmp 3), 0, none) := by kernel_rfl
theorem p113_1_2 : pj (regOf Try.f113 1) 2 = some (some 5, .fieldAddr 138 (.tmp 4) 2, 0, none) := by kernel_rfl
theorem p113_1_3 : pj (regOf Try.f113 1) 3 = some (some 6, .load 3 (.tmp 5), 3, none) := by kernel_rfl
theorem p113_1_4 : pj (regOf Try.f113 1) 4 = some (some 7, .binOp .eql 3 (.tmp 6) (.const (.int .i64 0)) 3, 4, none) := by kernel_rfl
theorem p113_1_5 : pj (regOf Try.f113 1) 5 = some (some 8, .move (.tmp 7), 4, none) := by kernel_rfl
theorem p113_1_6 : pj (regOf Try.f113 1) 6 = some (some 9, .move (.tmp 0), 136, some (5, true)) := by kernel_rfl
theorem g113_1_5 : dstOf (regOf Try.f113 1) 5 = some 8 := by kernel_rfl
theorem p113_1_7 : pj (regOf Try.f113 1) 7 = some (some 10, .nilCheck (.tmp 9), 0, some (5, true)) := by kernel_rfl
theorem p113_1_8 : pj (regOf Try.f113 1) 8 = some (some 11, .fieldAddr 138 (.tmp 10) 0, 0, some (5, true)) := by kernel_rfl
theorem p113_1_9 : pj (regOf Try.f113 1) 9 = some (some 12, .load 22 (.tmp 11), 22, some (5, true)) := by kernel_rfl
theorem p113_1_10 : pj (regOf Try.f113 1) 10 = some (some 13, .call { callee := .builtin .len, args := #[.tmp 12], argTypes := #[22] }, 3, some (5, true)) := by kernel_rfl
theorem p113_1_11 : pj (regOf Try.f113 1) 11 = some (some 14, .binOp .gtr 3 (.tmp 13) (.const (.int .i64 0)) 3, 4, some (5, true)) := by kernel_rfl
theorem p113_1_12 : pj (regOf Try.f113 1) 12 = some (some 15, .pick (.tmp 8) (.tmp 14) (.const (.bool false)), 4, none) := by kernel_rfl
theorem p113_2_0 : pj (regOf Try.f113 2) 0 = some (some 2, .assign (.const (.int .i64 3)), 3, none) := by kernel_rfl
theorem p113_3_0 : pj (regOf Try.f113 3) 0 = some (some 16, .move (.tmp 0), 136, none) := by kernel_rfl
theorem p113_3_1 : pj (regOf Try.f113 3) 1 = some (some 17, .nilCheck (.tmp 16), 0, none) := by kernel_rfl
theorem p113_3_2 : pj (regOf Try.f113 3) 2 = some (some 18, .fieldAddr 138 (.tmp 17) 2, 0, none) := by kernel_rfl
theorem p113_3_3 : pj (regOf Try.f113 3) 3 = some (some 19, .load 3 (.tmp 18), 3, none) := by kernel_rfl
theorem p113_3_4 : pj (regOf Try.f113 3) 4 = some (some 2, .assign (.tmp 19), 3, none) := by kernel_rfl
set_option maxHeartbeats 4000000 in
theorem rcl_c (g : Nat) (A : Option Addr) (n c : Nat) (p : Nat) (r : Int) (w : World) (B_g : w.heap[g]? = some (.cells #[.slice A n c, .int .i64 (p : Int), .int .i64 r] 138 (0, 0))) : Calls Try.prog 113 #[.pointer (some ⟨g, 0, none⟩)] w fun e w' => e = .returned (.int .i64 (rclF n r)) ∧ Kp w w' (fun _ => False) := by
 have K_0 := Kp.refl w (fun _ => False)
 refine enter (args := [Value.pointer (some ⟨g, 0, none⟩)]) (n := 20) Try.func113 body113 rfl rfl rfl ?_
 intro a hE
 refine c_reg R113_0_l ?_
 refine q0 p113_0_0 hE (st_assign rfl) ?_; clear hE a; intro a hE
 refine p_nil (x_norm (wp_seq (c_reg R113_1_l ?_)))
 refine q0 p113_1_0 hE (st_move rfl) ?_; clear hE a; intro a hE
 refine q0 p113_1_1 hE (st_nil rfl) ?_; clear hE a; intro a hE
 refine q0 p113_1_2 hE (st_fieldAddr Try.underlying138 rfl tS3 rfl rfl) ?_; clear hE a; intro a hE
 refine q0 p113_1_3 hE (st_load1 tA3 rfl ((blk_cell B_g 2).trans rfl)) ?_; clear hE a; intro a hE
 rcases Decidable.em (r = 0) with hc1 | hc1
 ·
  refine p_cons (s_still (v := Value.bool true) p113_1_4 hE wn_none rfl (st_eql rfl rfl (decide_eq_true hc1)) ?_); clear hE a; intro a hE
  refine q0 p113_1_5 hE (st_move rfl) ?_; clear hE a; intro a hE
  refine p_cons (s_still p113_1_6 hE (wn_some g113_1_5 rfl rfl) rfl (st_move rfl) ?_); clear hE a; intro a hE
  refine p_cons (s_still p113_1_7 hE (wn_some g113_1_5 rfl rfl) rfl (st_nil rfl) ?_); clear hE a; intro a hE
  refine p_cons (s_still p113_1_8 hE (wn_some g113_1_5 rfl rfl) rfl (st_fieldAddr Try.underlying138 rfl tS22 rfl rfl) ?_); clear hE a; intro a hE
  refine p_cons (s_still p113_1_9 hE (wn_some g113_1_5 rfl rfl) rfl (st_load1 tA22 rfl ((blk_cell B_g 0).trans rfl)) ?_); clear hE a; intro a hE
  refine p_cons (s_still p113_1_10 hE (wn_some g113_1_5 rfl rfl) rfl (st_len Try.underlying22 rfl) ?_); clear hE a; intro a hE
  rcases Decidable.em (0 < (n : Int)) with hc2 | hc2
  ·
   refine p_cons (s_still (v := Value.bool true) p113_1_11 hE (wn_some g113_1_5 rfl rfl) rfl (st_gtr rfl rfl (decide_eq_true hc2)) ?_); clear hE a; intro a hE
   refine q0 p113_1_12 hE (st_pick rfl rfl) ?_; clear hE a; intro a hE
   refine p_nil (x_norm ?_)
   refine c_cond (t := true) hE rfl ?_
   refine c_reg R113_2_l ?_
   refine q0 p113_2_0 hE (st_assign rfl) ?_; clear hE a; intro a hE
   refine p_nil (x_norm (wp_ret (x_ret ?_)))
   refine ret_one (v := Value.int .i64 3) rfl hE (.tmp rfl .nil) ?_
   exact ⟨by unfold rclF; rw [if_pos hc1, if_pos (by omega)], K_0⟩
  ·
   refine p_cons (s_still (v := Value.bool false) p113_1_11 hE (wn_some g113_1_5 rfl rfl) rfl (st_gtr rfl rfl (decide_eq_false hc2)) ?_); clear hE a; intro a hE
   refine q0 p113_1_12 hE (st_pick rfl rfl) ?_; clear hE a; intro a hE
   refine p_nil (x_norm ?_)
   refine c_cond (t := false) hE rfl ?_
   refine wp_skip (x_norm (c_reg R113_3_l ?_))
   refine q0 p113_3_0 hE (st_move rfl) ?_; clear hE a; intro a hE
   refine q0 p113_3_1 hE (st_nil rfl) ?_; clear hE a; intro a hE
   refine q0 p113_3_2 hE (st_fieldAddr Try.underlying138 rfl tS3 rfl rfl) ?_; clear hE a; intro a hE
   refine q0 p113_3_3 hE (st_load1 tA3 rfl ((blk_cell B_g 2).trans rfl)) ?_; clear hE a; intro a hE
   refine q0 p113_3_4 hE (st_assign rfl) ?_; clear hE a; intro a hE
   refine p_nil (x_norm (wp_ret ?_))
   refine ret_one (v := Value.int .i64 r) rfl hE (.tmp rfl .nil) ?_
   exact ⟨by unfold rclF; rw [if_pos hc1, if_neg (by omega)], K_0⟩
 ·
  refine p_cons (s_still (v := Value.bool false) p113_1_4 hE wn_none rfl (st_eql rfl rfl (decide_eq_false hc1)) ?_); clear hE a; intro a hE
  refine q0 p113_1_5 hE (st_move rfl) ?_; clear hE a; intro a hE
  refine p_cons (s_skip p113_1_6 hE (wn_some g113_1_5 rfl rfl) rfl ?_); clear hE a; intro a hE
  refine p_cons (s_skip p113_1_7 hE (wn_some g113_1_5 rfl rfl) rfl ?_); clear hE a; intro a hE
  refine p_cons (s_skip p113_1_8 hE (wn_some g113_1_5 rfl rfl) rfl ?_); clear hE a; intro a hE
  refine p_cons (s_skip p113_1_9 hE (wn_some g113_1_5 rfl rfl) rfl ?_); clear hE a; intro a hE
  refine p_cons (s_skip p113_1_10 hE (wn_some g113_1_5 rfl rfl) rfl ?_); clear hE a; intro a hE
  refine p_cons (s_skip p113_1_11 hE (wn_some g113_1_5 rfl rfl) rfl ?_); clear hE a; intro a hE
  refine q0 p113_1_12 hE (st_pick rfl rfl) ?_; clear hE a; intro a hE
  refine p_nil (x_norm ?_)
  refine c_cond (t := false) hE rfl ?_
  refine wp_skip (x_norm (c_reg R113_3_l ?_))
  refine q0 p113_3_0 hE (st_move rfl) ?_; clear hE a; intro a hE
  refine q0 p113_3_1 hE (st_nil rfl) ?_; clear hE a; intro a hE
  refine q0 p113_3_2 hE (st_fieldAddr Try.underlying138 rfl tS3 rfl rfl) ?_; clear hE a; intro a hE
  refine q0 p113_3_3 hE (st_load1 tA3 rfl ((blk_cell B_g 2).trans rfl)) ?_; clear hE a; intro a hE
  refine q0 p113_3_4 hE (st_assign rfl) ?_; clear hE a; intro a hE
  refine p_nil (x_norm (wp_ret ?_))
  refine ret_one (v := Value.int .i64 r) rfl hE (.tmp rfl .nil) ?_
  exact ⟨by unfold rclF; rw [if_neg hc1], K_0⟩
end Go.Proofs.Ytgpclehnomkbmaa.Dc
