/- Package pack: numbers that fit, numbers put; texts compared. -/
import Derived.Test.YtgpclehnomkbmaaChecked
import Derived.Test.YtgpclehnomkbmaaRs
import Derived.Lib.SliceRun
set_option maxRecDepth 100000
set_option linter.unusedVariables false
set_option linter.unusedSimpArgs false
namespace Go.Proofs.Ytgpclehnomkbmaa.Pk
open Go.RowKit Go.Proofs.YtgpclehnomkbmaaW.PrintWords Go.Proofs.Ytgpclehnomkbmaa.Ds
def spanF (n : Int) : Int := if n = 1 then 256 else if n = 2 then 65536 else if n = 4 then 4294967296 else 0
def fitsF (k : Int) (l : List Int) : Bool := decide (0 < spanF k) && l.all (fun n => decide (0 ≤ n ∧ n < spanF k))
def digF (k n : Int) : List Int := if k = 4 then [n / 16777216 % 256, n / 65536 % 256, n / 256 % 256, n % 256] else if k = 2 then [n / 256 % 256, n % 256] else [n % 256]
def putF (k : Int) (l : List Int) : List Int := l.flatMap (digF k)
theorem span_bd (k : Int) : 0 ≤ spanF k ∧ spanF k ≤ 4294967296 := by
 unfold spanF
 split
 · omega
 ·
  split
  · omega
  · split <;> omega
theorem put_take (k : Int) (l : List Int) (j : Nat) (h : j < l.length) : putF k (l.take (j + 1)) = putF k (l.take j) ++ digF k (rd l j) := by
 unfold putF
 rw [List.take_succ_eq_append_getElem h, List.flatMap_append]
 simp [rd, h]
theorem put_len (k : Int) (l : List Int) (j : Nat) : (putF k (l.take j)).length ≤ (putF k l).length := by
 have h : putF k l = putF k (l.take j) ++ putF k (l.drop j) := by
  unfold putF
  rw [← List.flatMap_append, List.take_append_drop]
 rw [h, List.length_append]
 omega
theorem rd_mem {l : List Int} {v : Int} (h : v ∈ l) : ∃ j, j < l.length ∧ rd l (j : Int) = v := by
 obtain ⟨j, hj, e⟩ := List.getElem_of_mem h
 exact ⟨j, hj, by simp [rd, rdOf, List.getD_eq_getElem?_getD, hj, e]⟩
theorem mem_rd {l : List Int} {j : Nat} (h : j < l.length) : rd l (j : Int) ∈ l := by
 simp [rd, rdOf, List.getD_eq_getElem?_getD, h]
theorem rd_ext {l l' : List Int} (hn : l.length = l'.length) (h : ∀ j, j < l.length → rd l (j : Int) = rd l' (j : Int)) : l = l' := by
 refine List.ext_getElem hn (fun j h1 h2 => ?_)
 have := h j h1
 simpa [rd, rdOf, List.getD_eq_getElem?_getD, h1, h2] using this
theorem fits_all {k : Int} {l : List Int} (h0 : 0 < spanF k) (h : ∀ j, j < l.length → 0 ≤ rd l (j : Int) ∧ rd l (j : Int) < spanF k) : fitsF k l = true := by
 simp only [fitsF, Bool.and_eq_true, List.all_eq_true, decide_eq_true_eq]
 exact ⟨h0, fun x hx => by obtain ⟨j, hj, rfl⟩ := rd_mem hx; exact h j hj⟩
theorem fits_at {k : Int} {l : List Int} (h : fitsF k l = true) : 0 < spanF k ∧ ∀ j, j < l.length → 0 ≤ rd l (j : Int) ∧ rd l (j : Int) < spanF k := by
 simp only [fitsF, Bool.and_eq_true, List.all_eq_true, decide_eq_true_eq] at h
 exact ⟨h.1, fun j hj => h.2 _ (mem_rd hj)⟩
theorem R130_0_l : List.range (regOf Try.f130 0).size = [0] := by kernel_rfl
theorem R130_1_l : List.range (regOf Try.f130 1).size = [0] := by kernel_rfl
theorem R130_2_l : List.range (regOf Try.f130 2).size = [0, 1] := by kernel_rfl
theorem R130_3_l : List.range (regOf Try.f130 3).size = [0, 1] := by kernel_rfl
theorem R130_4_l : List.range (regOf Try.f130 4).size = [0, 1] := by kernel_rfl
theorem R130_5_l : List.range (regOf Try.f130 5).size = [0, 1, 2, 3] := by kernel_rfl
theorem R130_6_l : List.range (regOf Try.f130 6).size = [0] := by kernel_rfl
theorem body130 : Try.f130.body = some (.seq (.region 0 (regOf Try.f130 0) false) (.seq (.seq (.region 1 (regOf Try.f130 1) false) (.block 0 (.seq (.seq (.region 2 (regOf Try.f130 2) false) (.cond (Operand.tmp 4) (.skip) (.seq (.region 3 (regOf Try.f130 3) false) (.cond (Operand.tmp 4) (.skip) (.region 4 (regOf Try.f130 4) false))))) (.cond (Operand.tmp 4) (.seq (.region 5 (regOf Try.f130 5) false) (.ret)) (.skip))))) (.seq (.region 6 (regOf Try.f130 6) false) (.ret)))) := by kernel_rfl
theorem p130_0_0 : pj (regOf Try.f130 0) 0 = some (some 2, .assign (.const (.int .i64 0)), 3, none) := by kernel_rfl
theorem p130_1_0 : pj (regOf Try.f130 1) 0 = some (some 3, .move (.tmp 0), 3, none) := by kernel_rfl
theorem p130_2_0 : pj (regOf Try.f130 2) 0 = some (some 5, .binOp .eql 3 (.tmp 3) (.const (.int .i64 1)) 3, 4, none) := by kernel_rfl
theorem p130_2_1 : pj (regOf Try.f130 2) 1 = some (some 4, .assign (.tmp 5), 4, none) := by kernel_rfl
theorem p130_5_0 : pj (regOf Try.f130 5) 0 = some (some 8, .move (.tmp 0), 3, none) := by kernel_rfl
theorem p130_5_1 : pj (regOf Try.f130 5) 1 = some (some 9, .binOp .mul 3 (.const (.int .i64 8)) (.tmp 8) 3, 3, none) := by kernel_rfl
theorem p130_5_2 : pj (regOf Try.f130 5) 2 = some (some 10, .binOp .shl 3 (.const (.int .i64 1)) (.tmp 9) 3, 3, none) := by kernel_rfl
theorem p130_5_3 : pj (regOf Try.f130 5) 3 = some (some 2, .assign (.tmp 10), 3, none) := by kernel_rfl
set_option maxHeartbeats 4000000 in
theorem span_1 (w : World) : Calls Try.prog 130 #[.int .i64 1] w fun e w' => e = .returned (.int .i64 256) ∧ Kp w w' (fun _ => False) := by
 have K_0 := Kp.refl w (fun _ => False)
 refine enter (args := [Value.int .i64 1]) (n := 11) Try.func130 body130 rfl rfl rfl ?_
 intro a hE
 refine c_reg R130_0_l ?_
 refine q0 p130_0_0 hE (st_assign rfl) ?_; clear hE a; intro a hE
 refine p_nil (x_norm (wp_seq (c_reg R130_1_l ?_)))
 refine q0 p130_1_0 hE (st_move rfl) ?_; clear hE a; intro a hE
 refine p_nil (x_norm (wp_block (wp_seq (c_reg R130_2_l ?_))))
 refine q0 p130_2_0 hE (st_eql (b := true) rfl rfl (by decide)) ?_; clear hE a; intro a hE
 refine q0 p130_2_1 hE (st_assign rfl) ?_; clear hE a; intro a hE
 refine p_nil (x_norm ?_)
 refine c_cond (t := true) hE rfl ?_
 refine wp_skip (x_norm ?_)
 refine c_cond (t := true) hE rfl ?_
 refine c_reg R130_5_l ?_
 refine q0 p130_5_0 hE (st_move rfl) ?_; clear hE a; intro a hE
 refine q0 p130_5_1 hE (st_mul (z := 8) rfl rfl (by decide)) ?_; clear hE a; intro a hE
 refine q0 p130_5_2 hE (st_shl (z := 256) rfl rfl (by decide) (by decide) (by decide)) ?_; clear hE a; intro a hE
 refine q0 p130_5_3 hE (st_assign rfl) ?_; clear hE a; intro a hE
 refine p_nil (x_norm (wp_ret (x_retB (x_ret ?_))))
 refine ret_one (v := Value.int .i64 256) rfl hE (.tmp rfl .nil) ?_
 exact ⟨rfl, K_0⟩
theorem p130_3_0 : pj (regOf Try.f130 3) 0 = some (some 6, .binOp .eql 3 (.tmp 3) (.const (.int .i64 2)) 3, 4, none) := by kernel_rfl
theorem p130_3_1 : pj (regOf Try.f130 3) 1 = some (some 4, .assign (.tmp 6), 4, none) := by kernel_rfl
set_option maxHeartbeats 4000000 in
theorem span_2 (w : World) : Calls Try.prog 130 #[.int .i64 2] w fun e w' => e = .returned (.int .i64 65536) ∧ Kp w w' (fun _ => False) := by
 have K_0 := Kp.refl w (fun _ => False)
 refine enter (args := [Value.int .i64 2]) (n := 11) Try.func130 body130 rfl rfl rfl ?_
 intro a hE
 refine c_reg R130_0_l ?_
 refine q0 p130_0_0 hE (st_assign rfl) ?_; clear hE a; intro a hE
 refine p_nil (x_norm (wp_seq (c_reg R130_1_l ?_)))
 refine q0 p130_1_0 hE (st_move rfl) ?_; clear hE a; intro a hE
 refine p_nil (x_norm (wp_block (wp_seq (c_reg R130_2_l ?_))))
 refine q0 p130_2_0 hE (st_eql (b := false) rfl rfl (by decide)) ?_; clear hE a; intro a hE
 refine q0 p130_2_1 hE (st_assign rfl) ?_; clear hE a; intro a hE
 refine p_nil (x_norm ?_)
 refine c_cond (t := false) hE rfl ?_
 refine c_reg R130_3_l ?_
 refine q0 p130_3_0 hE (st_eql (b := true) rfl rfl (by decide)) ?_; clear hE a; intro a hE
 refine q0 p130_3_1 hE (st_assign rfl) ?_; clear hE a; intro a hE
 refine p_nil (x_norm ?_)
 refine c_cond (t := true) hE rfl ?_
 refine wp_skip (x_norm ?_)
 refine c_cond (t := true) hE rfl ?_
 refine c_reg R130_5_l ?_
 refine q0 p130_5_0 hE (st_move rfl) ?_; clear hE a; intro a hE
 refine q0 p130_5_1 hE (st_mul (z := 16) rfl rfl (by decide)) ?_; clear hE a; intro a hE
 refine q0 p130_5_2 hE (st_shl (z := 65536) rfl rfl (by decide) (by decide) (by decide)) ?_; clear hE a; intro a hE
 refine q0 p130_5_3 hE (st_assign rfl) ?_; clear hE a; intro a hE
 refine p_nil (x_norm (wp_ret (x_retB (x_ret ?_))))
 refine ret_one (v := Value.int .i64 65536) rfl hE (.tmp rfl .nil) ?_
 exact ⟨rfl, K_0⟩
theorem p130_4_0 : pj (regOf Try.f130 4) 0 = some (some 7, .binOp .eql 3 (.tmp 3) (.const (.int .i64 4)) 3, 4, none) := by kernel_rfl
theorem p130_4_1 : pj (regOf Try.f130 4) 1 = some (some 4, .assign (.tmp 7), 4, none) := by kernel_rfl
set_option maxHeartbeats 4000000 in
theorem span_4 (w : World) : Calls Try.prog 130 #[.int .i64 4] w fun e w' => e = .returned (.int .i64 4294967296) ∧ Kp w w' (fun _ => False) := by
 have K_0 := Kp.refl w (fun _ => False)
 refine enter (args := [Value.int .i64 4]) (n := 11) Try.func130 body130 rfl rfl rfl ?_
 intro a hE
 refine c_reg R130_0_l ?_
 refine q0 p130_0_0 hE (st_assign rfl) ?_; clear hE a; intro a hE
 refine p_nil (x_norm (wp_seq (c_reg R130_1_l ?_)))
 refine q0 p130_1_0 hE (st_move rfl) ?_; clear hE a; intro a hE
 refine p_nil (x_norm (wp_block (wp_seq (c_reg R130_2_l ?_))))
 refine q0 p130_2_0 hE (st_eql (b := false) rfl rfl (by decide)) ?_; clear hE a; intro a hE
 refine q0 p130_2_1 hE (st_assign rfl) ?_; clear hE a; intro a hE
 refine p_nil (x_norm ?_)
 refine c_cond (t := false) hE rfl ?_
 refine c_reg R130_3_l ?_
 refine q0 p130_3_0 hE (st_eql (b := false) rfl rfl (by decide)) ?_; clear hE a; intro a hE
 refine q0 p130_3_1 hE (st_assign rfl) ?_; clear hE a; intro a hE
 refine p_nil (x_norm ?_)
 refine c_cond (t := false) hE rfl ?_
 refine c_regL R130_4_l ?_
 refine q0 p130_4_0 hE (st_eql (b := true) rfl rfl (by decide)) ?_; clear hE a; intro a hE
 refine q0 p130_4_1 hE (st_assign rfl) ?_; clear hE a; intro a hE
 refine p_nil (x_norm ?_)
 refine c_cond (t := true) hE rfl ?_
 refine c_reg R130_5_l ?_
 refine q0 p130_5_0 hE (st_move rfl) ?_; clear hE a; intro a hE
 refine q0 p130_5_1 hE (st_mul (z := 32) rfl rfl (by decide)) ?_; clear hE a; intro a hE
 refine q0 p130_5_2 hE (st_shl (z := 4294967296) rfl rfl (by decide) (by decide) (by decide)) ?_; clear hE a; intro a hE
 refine q0 p130_5_3 hE (st_assign rfl) ?_; clear hE a; intro a hE
 refine p_nil (x_norm (wp_ret (x_retB (x_ret ?_))))
 refine ret_one (v := Value.int .i64 4294967296) rfl hE (.tmp rfl .nil) ?_
 exact ⟨rfl, K_0⟩
theorem p130_6_0 : pj (regOf Try.f130 6) 0 = some (some 2, .assign (.const (.int .i64 0)), 3, none) := by kernel_rfl
set_option maxHeartbeats 4000000 in
theorem span_no (n : Int) (h : n ≠ 1 ∧ n ≠ 2 ∧ n ≠ 4) (w : World) : Calls Try.prog 130 #[.int .i64 n] w fun e w' => e = .returned (.int .i64 0) ∧ Kp w w' (fun _ => False) := by
 have K_0 := Kp.refl w (fun _ => False)
 refine enter (args := [Value.int .i64 n]) (n := 11) Try.func130 body130 rfl rfl rfl ?_
 intro a hE
 refine c_reg R130_0_l ?_
 refine q0 p130_0_0 hE (st_assign rfl) ?_; clear hE a; intro a hE
 refine p_nil (x_norm (wp_seq (c_reg R130_1_l ?_)))
 refine q0 p130_1_0 hE (st_move rfl) ?_; clear hE a; intro a hE
 refine p_nil (x_norm (wp_block (wp_seq (c_reg R130_2_l ?_))))
 refine q0 p130_2_0 hE (st_eql (b := false) rfl rfl (decide_eq_false (by omega))) ?_; clear hE a; intro a hE
 refine q0 p130_2_1 hE (st_assign rfl) ?_; clear hE a; intro a hE
 refine p_nil (x_norm ?_)
 refine c_cond (t := false) hE rfl ?_
 refine c_reg R130_3_l ?_
 refine q0 p130_3_0 hE (st_eql (b := false) rfl rfl (decide_eq_false (by omega))) ?_; clear hE a; intro a hE
 refine q0 p130_3_1 hE (st_assign rfl) ?_; clear hE a; intro a hE
 refine p_nil (x_norm ?_)
 refine c_cond (t := false) hE rfl ?_
 refine c_regL R130_4_l ?_
 refine q0 p130_4_0 hE (st_eql (b := false) rfl rfl (decide_eq_false (by omega))) ?_; clear hE a; intro a hE
 refine q0 p130_4_1 hE (st_assign rfl) ?_; clear hE a; intro a hE
 refine p_nil (x_norm ?_)
 refine c_cond (t := false) hE rfl ?_
 refine wp_skip (x_normB (x_norm (c_reg R130_6_l ?_)))
 refine q0 p130_6_0 hE (st_assign rfl) ?_; clear hE a; intro a hE
 refine p_nil (x_norm (wp_ret ?_))
 refine ret_one (v := Value.int .i64 0) rfl hE (.tmp rfl .nil) ?_
 exact ⟨rfl, K_0⟩
theorem span_any (n : Int) (w : World) : Calls Try.prog 130 #[.int .i64 n] w fun e w' => e = .returned (.int .i64 (spanF n)) ∧ Kp w w' (fun _ => False) := by
 by_cases h1 : n = 1
 · subst h1; exact span_1 w
 by_cases h2 : n = 2
 · subst h2; exact span_2 w
 by_cases h4 : n = 4
 · subst h4; exact span_4 w
 have e : spanF n = 0 := by unfold spanF; rw [if_neg h1, if_neg h2, if_neg h4]
 rw [e]
 exact span_no n ⟨h1, h2, h4⟩ w
theorem R83_0_l : List.range (regOf Try.f83 0).size = [0] := by kernel_rfl
theorem R83_1_l : List.range (regOf Try.f83 1).size = [0, 1, 2] := by kernel_rfl
theorem R83_2_l : List.range (regOf Try.f83 2).size = [0, 1, 2] := by kernel_rfl
theorem R83_3_l : List.range (regOf Try.f83 3).size = [0] := by kernel_rfl
theorem R83_4_l : List.range (regOf Try.f83 4).size = [0, 1, 2] := by kernel_rfl
theorem R83_5_l : List.range (regOf Try.f83 5).size = [0, 1, 2, 3, 4, 5, 6] := by kernel_rfl
theorem R83_6_l : List.range (regOf Try.f83 6).size = [0] := by kernel_rfl
theorem R83_7_l : List.range (regOf Try.f83 7).size = [0, 1] := by kernel_rfl
theorem R83_8_l : List.range (regOf Try.f83 8).size = [0, 1, 2] := by kernel_rfl
theorem body83 : Try.f83.body = some (.seq (.region 0 (regOf Try.f83 0) false) (.seq (.region 1 (regOf Try.f83 1) false) (.seq (.seq (.region 2 (regOf Try.f83 2) false) (.block 0 (.loop (.seq (.region 3 (regOf Try.f83 3) false) (.seq (.cond (Operand.tmp 13) (.skip) (.exit 0)) (.seq (.block 1 (.seq (.region 4 (regOf Try.f83 4) false) (.seq (.region 5 (regOf Try.f83 5) false) (.cond (Operand.tmp 22) (.seq (.region 6 (regOf Try.f83 6) false) (.ret)) (.skip))))) (.region 7 (regOf Try.f83 7) false))))))) (.seq (.region 8 (regOf Try.f83 8) false) (.ret))))) := by kernel_rfl
theorem p83_0_0 : pj (regOf Try.f83 0) 0 = some (some 4, .assign (.const (.bool false)), 4, none) := by kernel_rfl
theorem p83_1_0 : pj (regOf Try.f83 1) 0 = some (some 8, .move (.tmp 0), 3, none) := by kernel_rfl
theorem p83_1_1 : pj (regOf Try.f83 1) 1 = some (some 9, .call { callee := .value (.func 130), args := #[.tmp 8], argTypes := #[3] }, 3, none) := by kernel_rfl
theorem cl130 : callable Try.f130 = true := by kernel_rfl
theorem p83_1_2 : pj (regOf Try.f83 1) 2 = some (some 5, .assign (.tmp 9), 3, none) := by kernel_rfl
theorem p83_2_0 : pj (regOf Try.f83 2) 0 = some (some 10, .move (.tmp 1), 42, none) := by kernel_rfl
theorem p83_2_1 : pj (regOf Try.f83 2) 1 = some (some 11, .call { callee := .builtin .len, args := #[.tmp 10], argTypes := #[42] }, 3, none) := by kernel_rfl
theorem p83_2_2 : pj (regOf Try.f83 2) 2 = some (some 12, .move (.const (.int .i64 0)), 3, none) := by kernel_rfl
theorem p83_3_0 : pj (regOf Try.f83 3) 0 = some (some 13, .binOp .lss 3 (.tmp 12) (.tmp 11) 3, 0, none) := by kernel_rfl
theorem p83_4_0 : pj (regOf Try.f83 4) 0 = some (some 14, .indexAddr 42 (.tmp 10) (.tmp 12), 0, none) := by kernel_rfl
theorem tS3 : (Try.prog.info? 3).map (·.size) = some 1 := by kernel_rfl
theorem p83_4_1 : pj (regOf Try.f83 4) 1 = some (some 15, .load 3 (.tmp 14), 3, none) := by kernel_rfl
theorem tA3 : (Try.prog.underlying 3).map aggD = some false := by kernel_rfl
theorem p83_4_2 : pj (regOf Try.f83 4) 2 = some (some 7, .assign (.tmp 15), 3, none) := by kernel_rfl
theorem p83_5_0 : pj (regOf Try.f83 5) 0 = some (some 16, .move (.tmp 7), 3, none) := by kernel_rfl
theorem p83_5_1 : pj (regOf Try.f83 5) 1 = some (some 17, .binOp .lss 3 (.tmp 16) (.const (.int .i64 0)) 3, 4, none) := by kernel_rfl
theorem p83_5_2 : pj (regOf Try.f83 5) 2 = some (some 18, .move (.tmp 17), 4, none) := by kernel_rfl
theorem p83_5_3 : pj (regOf Try.f83 5) 3 = some (some 19, .move (.tmp 7), 3, some (2, false)) := by kernel_rfl
theorem g83_5_2 : dstOf (regOf Try.f83 5) 2 = some 18 := by kernel_rfl
theorem p83_5_4 : pj (regOf Try.f83 5) 4 = some (some 20, .move (.tmp 5), 3, some (2, false)) := by kernel_rfl
theorem p83_5_5 : pj (regOf Try.f83 5) 5 = some (some 21, .binOp .geq 3 (.tmp 19) (.tmp 20) 3, 4, some (2, false)) := by kernel_rfl
theorem p83_5_6 : pj (regOf Try.f83 5) 6 = some (some 22, .pick (.tmp 18) (.const (.bool true)) (.tmp 21), 4, none) := by kernel_rfl
theorem p83_7_0 : pj (regOf Try.f83 7) 0 = some (some 23, .binOp .add 3 (.tmp 12) (.const (.int .i64 1)) 3, 3, none) := by kernel_rfl
theorem p83_7_1 : pj (regOf Try.f83 7) 1 = some (some 12, .move (.tmp 23), 3, none) := by kernel_rfl
theorem p83_6_0 : pj (regOf Try.f83 6) 0 = some (some 4, .assign (.const (.bool false)), 4, none) := by kernel_rfl
theorem p83_8_0 : pj (regOf Try.f83 8) 0 = some (some 24, .move (.tmp 5), 3, none) := by kernel_rfl
theorem p83_8_1 : pj (regOf Try.f83 8) 1 = some (some 25, .binOp .gtr 3 (.tmp 24) (.const (.int .i64 0)) 3, 4, none) := by kernel_rfl
theorem p83_8_2 : pj (regOf Try.f83 8) 2 = some (some 4, .assign (.tmp 25), 4, none) := by kernel_rfl
set_option maxHeartbeats 4000000 in
theorem fits_any (A : Option Addr) (c : Nat) (k : Int) (l : List Int) (r : Bool) (hr : fitsF k l = r) (w : World) (h : Kd.C (Kd.int .i64) w A l.length l) (hc : l.length ≤ c) : Calls Try.prog 83 #[.int .i64 k, .slice A l.length c] w fun e w' => e = .returned (.bool r) ∧ Kp w w' (fun _ => False) := by
 have K_0 := Kp.refl w (fun _ => False)
 have hq := span_bd k
 have hmx := h.2.1
 refine enter (args := [Value.int .i64 k, Value.slice A l.length c]) (n := 26) Try.func83 body83 rfl rfl rfl ?_
 intro a hE
 refine c_reg R83_0_l ?_
 refine q0 p83_0_0 hE (st_assign rfl) ?_; clear hE a; intro a hE
 refine p_nil (x_norm (c_reg R83_1_l ?_))
 refine q0 p83_1_0 hE (st_move rfl) ?_; clear hE a; intro a hE
 refine p_cons (s_call (xs := [Operand.tmp 8]) (args := [Value.int .i64 k]) p83_1_1 hE wn_none rfl rfl Try.func130 cl130 (span_any k _) ?_)
 rintro e w1 ⟨rfl, hk⟩
 replace K_0 := K_0.then_ hk (fun _ h => h.elim)
 refine ⟨_, rfl, ?_⟩; clear hE a; intro a hE
 refine q0 p83_1_2 hE (st_assign rfl) ?_; clear hE a; intro a hE
 refine p_nil (x_norm (wp_seq (c_reg R83_2_l ?_)))
 refine q0 p83_2_0 hE (st_move rfl) ?_; clear hE a; intro a hE
 refine q0 p83_2_1 hE (st_len Try.underlying42 rfl) ?_; clear hE a; intro a hE
 refine q0 p83_2_2 hE (st_move rfl) ?_; clear hE a; intro a hE
 refine p_nil (x_norm (wp_block ?_))
 refine c_loop (α := Nat) (fun j a W => En 26 a [(0, Value.int .i64 k), (1, Value.slice A l.length c), (5, Value.int .i64 (spanF k)), (10, Value.slice A l.length c), (11, Value.int .i64 (l.length : Int)), (12, Value.int .i64 (j : Int))] ∧ j ≤ l.length ∧ (∀ i, i < j → 0 ≤ rd l (i : Int) ∧ rd l (i : Int) < spanF k) ∧ Kp w W (fun _ => False)) (fun j => l.length - j) (0) ?_ ?_
 ·
  exact ⟨En.sub hE ⟨rfl, rfl, rfl, rfl, rfl, rfl, trivial⟩, Nat.zero_le _, fun i hi => absurd hi (Nat.not_lt_zero i), K_0⟩
 ·
  clear hE a
  rintro j a w2 ⟨hE, hj9, hall, K_0⟩
  rcases Decidable.em ((j : Int) < (l.length : Int)) with hK1 | hK1
  ·
   refine c_reg R83_3_l ?_
   refine q0 p83_3_0 hE (st_lss (b := true) rfl rfl (decide_eq_true hK1)) ?_; clear hE a; intro a hE
   refine p_nil (x_norm (wp_seq ?_))
   refine c_cond (t := true) hE rfl ?_
   refine wp_skip (x_norm (wp_seq (wp_block (c_reg R83_4_l ?_))))
   refine q0 p83_4_0 hE (st_indexAddrC (i := j) Try.underlying42 tS3 (C_to h K_0) rfl rfl (by omega)) ?_; clear hE a; intro a hE
   refine q0 (v := Value.int .i64 (rd l (j : Int))) p83_4_1 hE (st_loadC (i := j) tA3 (C_to h K_0) (by omega) rfl) ?_; clear hE a; intro a hE
   refine q0 p83_4_2 hE (st_assign rfl) ?_; clear hE a; intro a hE
   refine p_nil (x_norm ?_)
   rcases Decidable.em (0 ≤ rd l (j : Int) ∧ rd l (j : Int) < spanF k) with hG | hG
   ·
    refine c_reg R83_5_l ?_
    refine q0 p83_5_0 hE (st_move rfl) ?_; clear hE a; intro a hE
    refine q0 p83_5_1 hE (st_lss (b := false) rfl rfl (decide_eq_false (by omega))) ?_; clear hE a; intro a hE
    refine q0 p83_5_2 hE (st_move rfl) ?_; clear hE a; intro a hE
    refine p_cons (s_still p83_5_3 hE (wn_some g83_5_2 rfl rfl) rfl (st_move rfl) ?_); clear hE a; intro a hE
    refine p_cons (s_still p83_5_4 hE (wn_some g83_5_2 rfl rfl) rfl (st_move rfl) ?_); clear hE a; intro a hE
    refine p_cons (s_still p83_5_5 hE (wn_some g83_5_2 rfl rfl) rfl (st_geq (b := false) rfl rfl (decide_eq_false (by omega))) ?_); clear hE a; intro a hE
    refine q0 p83_5_6 hE (st_pick rfl rfl) ?_; clear hE a; intro a hE
    refine p_nil (x_norm ?_)
    refine c_cond (t := false) hE rfl ?_
    refine wp_skip (x_normB (x_norm (c_regL R83_7_l ?_)))
    refine q0 p83_7_0 hE (st_add (z := (j : Int) + 1) rfl rfl (wr_i64 _ (by omega) (by omega))) ?_; clear hE a; intro a hE
    refine q0 p83_7_1 hE (st_move rfl) ?_; clear hE a; intro a hE
    refine p_nil (x_norm ?_)
    exact ⟨j + 1, by omega, En.sub hE ⟨rfl, rfl, rfl, rfl, rfl, rfl, trivial⟩, by omega, fun i hi => by rcases Nat.lt_succ_iff_lt_or_eq.1 hi with h | h; exact hall i h; rw [h]; exact hG, K_0⟩
   ·
    rcases Decidable.em (rd l (j : Int) < 0) with hLO | hLO
    ·
     refine c_reg R83_5_l ?_
     refine q0 p83_5_0 hE (st_move rfl) ?_; clear hE a; intro a hE
     refine q0 p83_5_1 hE (st_lss (b := true) rfl rfl (decide_eq_true (by omega))) ?_; clear hE a; intro a hE
     refine q0 p83_5_2 hE (st_move rfl) ?_; clear hE a; intro a hE
     refine p_cons (s_skip p83_5_3 hE (wn_some g83_5_2 rfl rfl) rfl ?_); clear hE a; intro a hE
     refine p_cons (s_skip p83_5_4 hE (wn_some g83_5_2 rfl rfl) rfl ?_); clear hE a; intro a hE
     refine p_cons (s_skip p83_5_5 hE (wn_some g83_5_2 rfl rfl) rfl ?_); clear hE a; intro a hE
     refine q0 p83_5_6 hE (st_pick rfl rfl) ?_; clear hE a; intro a hE
     refine p_nil (x_norm ?_)
     refine c_cond (t := true) hE rfl ?_
     refine c_reg R83_6_l ?_
     refine q0 p83_6_0 hE (st_assign rfl) ?_; clear hE a; intro a hE
     refine p_nil (x_norm (wp_ret (x_retB (x_ret (x_ret (x_retB (x_ret ?_)))))))
     refine ret_one (v := Value.bool false) rfl hE (.tmp rfl .nil) ?_
     exact ⟨by rw [← hr, Bool.eq_false_iff.2 (fun hf => hG ((fits_at hf).2 j (by omega)))], K_0⟩
    ·
     refine c_reg R83_5_l ?_
     refine q0 p83_5_0 hE (st_move rfl) ?_; clear hE a; intro a hE
     refine q0 p83_5_1 hE (st_lss (b := false) rfl rfl (decide_eq_false (by omega))) ?_; clear hE a; intro a hE
     refine q0 p83_5_2 hE (st_move rfl) ?_; clear hE a; intro a hE
     refine p_cons (s_still p83_5_3 hE (wn_some g83_5_2 rfl rfl) rfl (st_move rfl) ?_); clear hE a; intro a hE
     refine p_cons (s_still p83_5_4 hE (wn_some g83_5_2 rfl rfl) rfl (st_move rfl) ?_); clear hE a; intro a hE
     refine p_cons (s_still p83_5_5 hE (wn_some g83_5_2 rfl rfl) rfl (st_geq (b := true) rfl rfl (decide_eq_true (by omega))) ?_); clear hE a; intro a hE
     refine q0 p83_5_6 hE (st_pick rfl rfl) ?_; clear hE a; intro a hE
     refine p_nil (x_norm ?_)
     refine c_cond (t := true) hE rfl ?_
     refine c_reg R83_6_l ?_
     refine q0 p83_6_0 hE (st_assign rfl) ?_; clear hE a; intro a hE
     refine p_nil (x_norm (wp_ret (x_retB (x_ret (x_ret (x_retB (x_ret ?_)))))))
     refine ret_one (v := Value.bool false) rfl hE (.tmp rfl .nil) ?_
     exact ⟨by rw [← hr, Bool.eq_false_iff.2 (fun hf => hG ((fits_at hf).2 j (by omega)))], K_0⟩
  ·
   refine c_reg R83_3_l ?_
   refine q0 p83_3_0 hE (st_lss (b := false) rfl rfl (decide_eq_false hK1)) ?_; clear hE a; intro a hE
   refine p_nil (x_norm (wp_seq ?_))
   refine c_cond (t := false) hE rfl ?_
   refine wp_exit (x_exit (x_exit (x_in (x_norm (c_reg R83_8_l ?_)))))
   refine q0 p83_8_0 hE (st_move rfl) ?_; clear hE a; intro a hE
   refine q0 p83_8_1 hE (st_gtr (b := (decide (0 < spanF k))) rfl rfl rfl) ?_; clear hE a; intro a hE
   refine q0 p83_8_2 hE (st_assign rfl) ?_; clear hE a; intro a hE
   refine p_nil (x_norm (wp_ret ?_))
   refine ret_one (v := Value.bool (decide (0 < spanF k))) rfl hE (.tmp rfl .nil) ?_
   have e9 : fitsF k l = decide (0 < spanF k) := by
     by_cases h0 : 0 < spanF k
     · rw [decide_eq_true h0, fits_all h0 (fun i hi => hall i (by omega))]
     · rw [decide_eq_false h0, Bool.eq_false_iff.2 (fun hf => h0 (fits_at hf).1)]
   exact ⟨by rw [← hr, e9], K_0⟩
section
variable {P : Program} {T T1 T2 : TypeId} {m : List (Nat × Value)} {w : World} {X Y : Operand}
theorem st_eqlSn {A : Option Addr} {n c : Nat} {b : Bool} {e : TypeId} (hT : P.underlying T1 = some (.slice e)) (h1 : ev m X = some (.slice A n c)) (h2 : ev m Y = some (.slice none 0 0)) (hb : A.isNone = b) : Still P (.binOp .eql T1 X Y T2) T m w (.bool b) := fun n a hE o e1 e2 => by
 subst hb; unfold execOp; rw [e1]
 simp [hE.ev h1, hE.ev h2, eqGuard, Lib.run_eql_slice_nil w _ _ _ _ _ _ _ hT]
end
theorem R123_0_l : List.range (regOf Try.f123 0).size = [0] := by kernel_rfl
theorem R123_1_l : List.range (regOf Try.f123 1).size = [0, 1] := by kernel_rfl
theorem R123_2_l : List.range (regOf Try.f123 2).size = [0] := by kernel_rfl
theorem R123_3_l : List.range (regOf Try.f123 3).size = [0, 1, 2, 3] := by kernel_rfl
theorem body123 : Try.f123.body = some (.seq (.region 0 (regOf Try.f123 0) false) (.seq (.seq (.region 1 (regOf Try.f123 1) false) (.cond (Operand.tmp 4) (.seq (.region 2 (regOf Try.f123 2) false) (.ret)) (.skip))) (.seq (.region 3 (regOf Try.f123 3) false) (.ret)))) := by kernel_rfl
theorem p123_0_0 : pj (regOf Try.f123 0) 0 = some (some 2, .assign (.const (.slice none 0 0)), 22, none) := by kernel_rfl
theorem p123_1_0 : pj (regOf Try.f123 1) 0 = some (some 3, .move (.tmp 0), 22, none) := by kernel_rfl
theorem p123_1_1 : pj (regOf Try.f123 1) 1 = some (some 4, .binOp .eql 22 (.tmp 3) (.const (.slice none 0 0)) 22, 4, none) := by kernel_rfl
theorem p123_2_0 : pj (regOf Try.f123 2) 0 = some (some 2, .assign (.const (.slice none 0 0)), 22, none) := by kernel_rfl
theorem p123_3_0 : pj (regOf Try.f123 3) 0 = some (some 5, .buildSlice 22 0 #[], 22, none) := by kernel_rfl
theorem p123_3_1 : pj (regOf Try.f123 3) 1 = some (some 6, .move (.tmp 0), 22, none) := by kernel_rfl
theorem p123_3_2 : pj (regOf Try.f123 3) 2 = some (some 7, .call { callee := .builtin .append, args := #[.tmp 5, .tmp 6], argTypes := #[22, 22] }, 22, none) := by kernel_rfl
theorem eD5 : elemD Try.prog 5 = some (1, 1, 1) := by kernel_rfl
theorem p123_3_3 : pj (regOf Try.f123 3) 3 = some (some 2, .assign (.tmp 7), 22, none) := by kernel_rfl
set_option maxHeartbeats 4000000 in
theorem clone_b (A : Option Addr) (c : Nat) (l : List Int) (w : World) (h : Kd.C (Kd.int .u8) w A l.length l) (hmx : l.length ≤ 1000000) : Calls Try.prog 123 #[.slice A l.length c] w fun e w' => ∃ A' c', e = .returned (.slice A' l.length c') ∧ w'.ownsRow w.heap.size 5 1 (.slice A' l.length c') l.length (encs (Value.int .u8) l) ∧ Kp w w' (fun _ => False) := by
 have K_0 := Kp.refl w (fun _ => False)
 refine enter (args := [Value.slice A l.length c]) (n := 8) Try.func123 body123 rfl rfl rfl ?_
 intro a hE
 refine c_reg R123_0_l ?_
 refine q0 p123_0_0 hE (st_assign rfl) ?_; clear hE a; intro a hE
 refine p_nil (x_norm (wp_seq ?_))
 rcases Decidable.em (A.isNone = true) with hNIL | hNIL
 ·
  refine c_reg R123_1_l ?_
  refine q0 p123_1_0 hE (st_move rfl) ?_; clear hE a; intro a hE
  refine q0 p123_1_1 hE (st_eqlSn (b := true) Try.underlying22 rfl rfl hNIL) ?_; clear hE a; intro a hE
  refine p_nil (x_norm ?_)
  refine c_cond (t := true) hE rfl ?_
  refine c_reg R123_2_l ?_
  refine q0 p123_2_0 hE (st_assign rfl) ?_; clear hE a; intro a hE
  refine p_nil (x_norm (wp_ret (x_ret ?_)))
  refine ret_one (v := Value.slice none 0 0) rfl hE (.tmp rfl .nil) ?_
  have h0 : l = [] := by
    rcases Nat.eq_zero_or_pos l.length with h2 | h2
    · exact List.eq_nil_of_length_eq_zero h2
    ·
     obtain ⟨ad, h3, _⟩ := h.2.2 h2
     rw [h3] at hNIL; cases hNIL
  subst h0
  exact ⟨none, 0, rfl, own_none _ _ _ _, K_0⟩
 ·
  refine c_reg R123_1_l ?_
  refine q0 p123_1_0 hE (st_move rfl) ?_; clear hE a; intro a hE
  refine q0 p123_1_1 hE (st_eqlSn (b := false) Try.underlying22 rfl rfl (Bool.eq_false_iff.2 hNIL)) ?_; clear hE a; intro a hE
  refine p_nil (x_norm ?_)
  refine c_cond (t := false) hE rfl ?_
  refine wp_skip (x_norm (c_reg R123_3_l ?_))
  refine p_cons (s_row (xs := []) (vs := []) (cs := #[]) p123_3_0 hE wn_none rfl Try.underlying22 rfl (by kernel_rfl) ?_)
  clear hE a; intro g1 w2 z3 B_g1 hk a hE
  have z_0_g1 := Nat.le_trans K_0.kept.1 z3
  replace K_0 := K_0.then_ hk (fun _ h => h.elim)
  clear hk
  refine q0 p123_3_1 hE (st_move rfl) ?_; clear hE a; intro a hE
  have O_q4 := own_blk9 (k := .u8) (l := []) B_g1 (show w.heap.size ≤ g1 from z_0_g1) rfl (Nat.le_of_ble_eq_true rfl)
  have Z_0_q4 : ∀ k, OB (some ⟨g1, 0, none⟩) k → (fun _ => False) k ∨ w.heap.size ≤ k := fun k h => by have h := ob_blk.1 h; subst h; exact Or.inr z_0_g1
  refine p_cons (s_appendC (xs := []) (ys := l) p123_3_2 hE wn_none rfl Try.underlying22 eD5 rfl O_q4 rfl (C_to h K_0) (by omega) (by omega) K_0.kept.1 ?_)
  clear hE a; intro Aq45 cq46 w7 O_q4' hk hat a hE
  rw [Nat.zero_add] at hE O_q4'
  rw [List.nil_append] at O_q4'
  have Z_0_q4' := grow_z Z_0_q4 K_0.kept.1 hat
  replace K_0 := K_0.then_ hk Z_0_q4
  replace Z_0_q4 := Z_0_q4'
  replace O_q4 : w7.ownsRow _ 5 1 (.slice Aq45 l.length cq46) l.length (encs (Value.int .u8) l) := O_q4'
  clear O_q4' hk hat
  refine q0 p123_3_3 hE (st_assign rfl) ?_; clear hE a; intro a hE
  refine p_nil (x_norm (wp_ret ?_))
  refine ret_one (v := Value.slice Aq45 l.length cq46) rfl hE (.tmp rfl .nil) ?_
  exact ⟨_, _, rfl, O_q4, K_0⟩
theorem R129_0_l : List.range (regOf Try.f129 0).size = [0, 1] := by kernel_rfl
theorem R129_1_l : List.range (regOf Try.f129 1).size = [0, 1, 2, 3] := by kernel_rfl
theorem R129_3_l : List.range (regOf Try.f129 3).size = [0, 1, 2] := by kernel_rfl
theorem R129_4_l : List.range (regOf Try.f129 4).size = [0, 1, 2] := by kernel_rfl
theorem R129_5_l : List.range (regOf Try.f129 5).size = [0] := by kernel_rfl
theorem R129_6_l : List.range (regOf Try.f129 6).size = [0, 1, 2] := by kernel_rfl
theorem R129_7_l : List.range (regOf Try.f129 7).size = [0] := by kernel_rfl
theorem R129_8_l : List.range (regOf Try.f129 8).size = [0, 1] := by kernel_rfl
theorem R129_9_l : List.range (regOf Try.f129 9).size = [0, 1] := by kernel_rfl
theorem R129_10_l : List.range (regOf Try.f129 10).size = [0, 1, 2, 3, 4, 5, 6, 7, 8, 9] := by kernel_rfl
theorem R129_11_l : List.range (regOf Try.f129 11).size = [0, 1, 2, 3, 4, 5, 6] := by kernel_rfl
theorem R129_12_l : List.range (regOf Try.f129 12).size = [0, 1, 2, 3, 4, 5] := by kernel_rfl
theorem R129_13_l : List.range (regOf Try.f129 13).size = [0, 1, 2] := by kernel_rfl
theorem R129_15_l : List.range (regOf Try.f129 15).size = [0, 1] := by kernel_rfl
theorem R129_16_l : List.range (regOf Try.f129 16).size = [0, 1, 2] := by kernel_rfl
theorem R129_18_l : List.range (regOf Try.f129 18).size = [0, 1, 2] := by kernel_rfl
theorem body129 : Try.f129.body = some (.seq (.region 0 (regOf Try.f129 0) false) (.seq (.seq (.region 1 (regOf Try.f129 1) false) (.cond (Operand.tmp 14) (.seq (.region 2 (regOf Try.f129 2) false) (.ret)) (.skip))) (.seq (.region 3 (regOf Try.f129 3) false) (.seq (.seq (.region 4 (regOf Try.f129 4) false) (.block 0 (.loop (.seq (.region 5 (regOf Try.f129 5) false) (.seq (.cond (Operand.tmp 20) (.skip) (.exit 0)) (.seq (.block 1 (.seq (.region 6 (regOf Try.f129 6) false) (.seq (.seq (.region 7 (regOf Try.f129 7) false) (.block 2 (.seq (.block 5 (.seq (.block 4 (.seq (.block 3 (.seq (.seq (.seq (.region 8 (regOf Try.f129 8) false) (.cond (Operand.tmp 24) (.exit 3) (.skip))) (.seq (.region 9 (regOf Try.f129 9) false) (.cond (Operand.tmp 26) (.exit 4) (.skip)))) (.exit 5))) (.region 10 (regOf Try.f129 10) false))) (.region 11 (regOf Try.f129 11) false))) (.seq (.region 12 (regOf Try.f129 12) false) (.exit 2))))) (.seq (.region 13 (regOf Try.f129 13) false) (.cond (Operand.tmp 50) (.seq (.region 14 (regOf Try.f129 14) false) (.ret)) (.skip)))))) (.region 15 (regOf Try.f129 15) false))))))) (.seq (.seq (.region 16 (regOf Try.f129 16) false) (.cond (Operand.tmp 54) (.seq (.region 17 (regOf Try.f129 17) false) (.ret)) (.skip))) (.seq (.region 18 (regOf Try.f129 18) false) (.ret))))))) := by kernel_rfl
theorem p129_0_0 : pj (regOf Try.f129 0) 0 = some (some 6, .assign (.const (.slice none 0 0)), 22, none) := by kernel_rfl
theorem p129_0_1 : pj (regOf Try.f129 0) 1 = some (some 7, .assign (.const (.int .i64 0)), 24, none) := by kernel_rfl
theorem p129_1_0 : pj (regOf Try.f129 1) 0 = some (some 11, .move (.tmp 1), 3, none) := by kernel_rfl
theorem p129_1_1 : pj (regOf Try.f129 1) 1 = some (some 12, .move (.tmp 2), 42, none) := by kernel_rfl
theorem p129_1_2 : pj (regOf Try.f129 1) 2 = some (some 13, .call { callee := .value (.func 83), args := #[.tmp 11, .tmp 12], argTypes := #[3, 42] }, 4, none) := by kernel_rfl
theorem cl83 : callable Try.f83 = true := by kernel_rfl
theorem p129_1_3 : pj (regOf Try.f129 1) 3 = some (some 14, .unOp .not 4 (.tmp 13), 4, none) := by kernel_rfl
theorem p129_3_0 : pj (regOf Try.f129 3) 0 = some (some 15, .move (.tmp 0), 22, none) := by kernel_rfl
theorem p129_3_1 : pj (regOf Try.f129 3) 1 = some (some 16, .call { callee := .value (.func 123), args := #[.tmp 15], argTypes := #[22] }, 22, none) := by kernel_rfl
theorem cl123 : callable Try.f123 = true := by kernel_rfl
theorem p129_3_2 : pj (regOf Try.f129 3) 2 = some (some 8, .assign (.tmp 16), 22, none) := by kernel_rfl
theorem p129_4_0 : pj (regOf Try.f129 4) 0 = some (some 17, .move (.tmp 2), 42, none) := by kernel_rfl
theorem p129_4_1 : pj (regOf Try.f129 4) 1 = some (some 18, .call { callee := .builtin .len, args := #[.tmp 17], argTypes := #[42] }, 3, none) := by kernel_rfl
theorem p129_4_2 : pj (regOf Try.f129 4) 2 = some (some 19, .move (.const (.int .i64 0)), 3, none) := by kernel_rfl
theorem p129_5_0 : pj (regOf Try.f129 5) 0 = some (some 20, .binOp .lss 3 (.tmp 19) (.tmp 18) 3, 0, none) := by kernel_rfl
theorem p129_6_0 : pj (regOf Try.f129 6) 0 = some (some 21, .indexAddr 42 (.tmp 17) (.tmp 19), 0, none) := by kernel_rfl
theorem p129_6_1 : pj (regOf Try.f129 6) 1 = some (some 22, .load 3 (.tmp 21), 3, none) := by kernel_rfl
theorem p129_6_2 : pj (regOf Try.f129 6) 2 = some (some 10, .assign (.tmp 22), 3, none) := by kernel_rfl
theorem p129_7_0 : pj (regOf Try.f129 7) 0 = some (some 23, .move (.tmp 1), 3, none) := by kernel_rfl
theorem p129_8_0 : pj (regOf Try.f129 8) 0 = some (some 25, .binOp .eql 3 (.tmp 23) (.const (.int .i64 4)) 3, 4, none) := by kernel_rfl
theorem p129_8_1 : pj (regOf Try.f129 8) 1 = some (some 24, .assign (.tmp 25), 4, none) := by kernel_rfl
theorem p129_9_0 : pj (regOf Try.f129 9) 0 = some (some 27, .binOp .eql 3 (.tmp 23) (.const (.int .i64 2)) 3, 4, none) := by kernel_rfl
theorem p129_9_1 : pj (regOf Try.f129 9) 1 = some (some 26, .assign (.tmp 27), 4, none) := by kernel_rfl
theorem p129_12_0 : pj (regOf Try.f129 12) 0 = some (some 43, .move (.tmp 8), 22, none) := by kernel_rfl
theorem p129_12_1 : pj (regOf Try.f129 12) 1 = some (some 44, .move (.tmp 10), 3, none) := by kernel_rfl
theorem p129_12_2 : pj (regOf Try.f129 12) 2 = some (some 45, .convert 3 5 (.tmp 44), 5, none) := by kernel_rfl
theorem p129_12_3 : pj (regOf Try.f129 12) 3 = some (some 46, .buildSlice 22 1 #[(0, .tmp 45)], 22, none) := by kernel_rfl
theorem p129_12_4 : pj (regOf Try.f129 12) 4 = some (some 47, .call { callee := .builtin .append, args := #[.tmp 43, .tmp 46], argTypes := #[22, 22] }, 22, none) := by kernel_rfl
theorem p129_12_5 : pj (regOf Try.f129 12) 5 = some (some 8, .assign (.tmp 47), 22, none) := by kernel_rfl
theorem p129_13_0 : pj (regOf Try.f129 13) 0 = some (some 48, .move (.tmp 8), 22, none) := by kernel_rfl
theorem p129_13_1 : pj (regOf Try.f129 13) 1 = some (some 49, .call { callee := .builtin .len, args := #[.tmp 48], argTypes := #[22] }, 3, none) := by kernel_rfl
theorem p129_13_2 : pj (regOf Try.f129 13) 2 = some (some 50, .binOp .gtr 3 (.tmp 49) (.const (.int .i64 1280)) 3, 4, none) := by kernel_rfl
theorem p129_15_0 : pj (regOf Try.f129 15) 0 = some (some 51, .binOp .add 3 (.tmp 19) (.const (.int .i64 1)) 3, 3, none) := by kernel_rfl
theorem p129_15_1 : pj (regOf Try.f129 15) 1 = some (some 19, .move (.tmp 51), 3, none) := by kernel_rfl
theorem p129_16_0 : pj (regOf Try.f129 16) 0 = some (some 52, .move (.tmp 8), 22, none) := by kernel_rfl
theorem p129_16_1 : pj (regOf Try.f129 16) 1 = some (some 53, .call { callee := .builtin .len, args := #[.tmp 52], argTypes := #[22] }, 3, none) := by kernel_rfl
theorem p129_16_2 : pj (regOf Try.f129 16) 2 = some (some 54, .binOp .gtr 3 (.tmp 53) (.const (.int .i64 1280)) 3, 4, none) := by kernel_rfl
theorem p129_18_0 : pj (regOf Try.f129 18) 0 = some (some 55, .move (.tmp 8), 22, none) := by kernel_rfl
theorem p129_18_1 : pj (regOf Try.f129 18) 1 = some (some 6, .assign (.tmp 55), 22, none) := by kernel_rfl
theorem p129_18_2 : pj (regOf Try.f129 18) 2 = some (some 7, .assign (.const (.int .i64 0)), 24, none) := by kernel_rfl
set_option maxHeartbeats 4000000 in
theorem put_k1 (A B : Option Addr) (c cl : Nat) (X l : List Int) (hf : fitsF 1 l = true) (w : World) (hb : Kd.C (Kd.int .u8) w A X.length X) (h : Kd.C (Kd.int .i64) w B l.length l) (hc : l.length ≤ cl) (hlen : (X ++ putF 1 l).length ≤ 1280) : Calls Try.prog 129 #[.slice A X.length c, .int .i64 1, .slice B l.length cl] w fun e w' => ∃ v, e = .returned (.tuple #[v, .int .i64 0]) ∧ w'.ownsRow w.heap.size 5 1 v (X ++ putF 1 l).length (encs (Value.int .u8) (X ++ putF 1 l)) ∧ Below w.heap.size w w' := by
 have K_0 := Kp.refl w (fun _ => False)
 have hlmx := h.2.1
 have hfa := fits_at hf
 have hsp : spanF 1 = 256 := rfl
 rw [hsp] at hfa
 have hXl := hlen
 rw [List.length_append] at hXl
 refine enter (args := [Value.slice A X.length c, Value.int .i64 1, Value.slice B l.length cl]) (n := 56) Try.func129 body129 rfl rfl rfl ?_
 intro a hE
 refine c_reg R129_0_l ?_
 refine q0 p129_0_0 hE (st_assign rfl) ?_; clear hE a; intro a hE
 refine q0 p129_0_1 hE (st_assign rfl) ?_; clear hE a; intro a hE
 refine p_nil (x_norm (wp_seq (c_reg R129_1_l ?_)))
 refine q0 p129_1_0 hE (st_move rfl) ?_; clear hE a; intro a hE
 refine q0 p129_1_1 hE (st_move rfl) ?_; clear hE a; intro a hE
 refine p_cons (s_call (xs := [Operand.tmp 11, Operand.tmp 12]) (args := [Value.int .i64 1, Value.slice B l.length cl]) p129_1_2 hE wn_none rfl rfl Try.func83 cl83 (fits_any B cl 1 l true hf _ (C_to h K_0) hc) ?_)
 rintro e w1 ⟨rfl, hk⟩
 replace K_0 := K_0.then_ hk (fun _ h => h.elim)
 refine ⟨_, rfl, ?_⟩; clear hE a; intro a hE
 refine q0 p129_1_3 hE (st_not rfl rfl) ?_; clear hE a; intro a hE
 refine p_nil (x_norm ?_)
 refine c_cond (t := false) hE rfl ?_
 refine wp_skip (x_norm (c_reg R129_3_l ?_))
 refine q0 p129_3_0 hE (st_move rfl) ?_; clear hE a; intro a hE
 have hnz_0 := K_0.kept.1
 refine p_cons (s_call (xs := [Operand.tmp 15]) (args := [Value.slice A X.length c]) p129_3_1 hE wn_none rfl rfl Try.func123 cl123 (clone_b A c X _ (C_to hb K_0) (by have := hXl; omega)) ?_)
 rintro e w2 ⟨A1, c1, rfl, O_o, hk⟩
 replace K_0 := K_0.then_ hk (fun _ h => h.elim)
 have Z_0_o : ∀ k, OB A1 k → (fun _ => False) k ∨ w.heap.size ≤ k := fun k h => .inr (by have := (own_ob O_o h).1; have := hnz_0; omega)
 replace O_o := own_lower O_o hnz_0
 refine ⟨_, rfl, ?_⟩; clear hE a; intro a hE
 refine q0 p129_3_2 hE (st_assign rfl) ?_; clear hE a; intro a hE
 refine p_nil (x_norm (wp_seq (c_reg R129_4_l ?_)))
 refine q0 p129_4_0 hE (st_move rfl) ?_; clear hE a; intro a hE
 refine q0 p129_4_1 hE (st_len Try.underlying42 rfl) ?_; clear hE a; intro a hE
 refine q0 p129_4_2 hE (st_move rfl) ?_; clear hE a; intro a hE
 refine p_nil (x_norm (wp_block ?_))
 have O_o0 := O_o
 replace O_o : w2.ownsRow w.heap.size 5 1 (.slice A1 X.length c1) X.length (encs (Value.int .u8) (X ++ putF 1 (l.take 0))) := by simpa [putF] using O_o0
 refine c_loop (α := Nat) (fun j a W => ∃ (A_o : Option Addr) (c_o : Nat) (n_o : Nat), En 56 a [(0, Value.slice A X.length c), (1, Value.int .i64 1), (2, Value.slice B l.length cl), (14, Value.bool false), (17, Value.slice B l.length cl), (18, Value.int .i64 (l.length : Int)), (19, Value.int .i64 (j : Int)), (8, Value.slice A_o n_o c_o)] ∧ j ≤ l.length ∧ n_o = (X ++ putF 1 (l.take j)).length ∧ W.ownsRow w.heap.size 5 1 (.slice A_o n_o c_o) n_o (encs (Value.int .u8) (X ++ putF 1 (l.take j))) ∧ (∀ k, OB A_o k → (fun _ => False) k ∨ w.heap.size ≤ k) ∧ Kp w W (fun _ => False)) (fun j => l.length - j) (0) ?_ ?_
 ·
  exact ⟨A1, c1, X.length, En.sub hE ⟨rfl, rfl, rfl, rfl, rfl, rfl, rfl, rfl, trivial⟩, Nat.zero_le _, (by simp [putF]), O_o, Z_0_o, K_0⟩
 ·
  clear hE a
  rintro j a w3 ⟨A_o, c_o, n_o, hE, hj9, hn_o, O_o, Z_0_o, K_0⟩
  rcases Decidable.em ((j : Int) < (l.length : Int)) with hK1 | hK1
  ·
   refine c_reg R129_5_l ?_
   refine q0 p129_5_0 hE (st_lss (b := true) rfl rfl (decide_eq_true hK1)) ?_; clear hE a; intro a hE
   refine p_nil (x_norm (wp_seq ?_))
   refine c_cond (t := true) hE rfl ?_
   refine wp_skip (x_norm (wp_seq (wp_block (c_reg R129_6_l ?_))))
   have hjl : j < l.length := by omega
   have hfj := hfa.2 j hjl
   have hpl := put_len 1 l (j + 1)
   have hpt := congrArg List.length (put_take 1 l j hjl)
   have hdl : (digF 1 (rd l (j : Int))).length = 1 := rfl
   rw [List.length_append] at hpt
   have hno : n_o = X.length + (putF 1 (l.take j)).length := by rw [hn_o, List.length_append]
   refine q0 p129_6_0 hE (st_indexAddrC (i := j) Try.underlying42 tS3 (C_to h K_0) rfl rfl (by omega)) ?_; clear hE a; intro a hE
   refine q0 (v := Value.int .i64 (rd l (j : Int))) p129_6_1 hE (st_loadC (i := j) tA3 (C_to h K_0) (by omega) rfl) ?_; clear hE a; intro a hE
   refine q0 p129_6_2 hE (st_assign rfl) ?_; clear hE a; intro a hE
   refine p_nil (x_norm (wp_seq (c_reg R129_7_l ?_)))
   refine q0 p129_7_0 hE (st_move rfl) ?_; clear hE a; intro a hE
   refine p_nil (x_norm (wp_block (wp_seq (wp_block (wp_seq (wp_block (wp_seq (wp_block (wp_seq (wp_seq (c_reg R129_8_l ?_)))))))))))
   refine q0 p129_8_0 hE (st_eql (b := false) rfl rfl (by decide)) ?_; clear hE a; intro a hE
   refine q0 p129_8_1 hE (st_assign rfl) ?_; clear hE a; intro a hE
   refine p_nil (x_norm ?_)
   refine c_cond (t := false) hE rfl ?_
   refine wp_skip (x_norm (c_reg R129_9_l ?_))
   refine q0 p129_9_0 hE (st_eql (b := false) rfl rfl (by decide)) ?_; clear hE a; intro a hE
   refine q0 p129_9_1 hE (st_assign rfl) ?_; clear hE a; intro a hE
   refine p_nil (x_norm ?_)
   refine c_cond (t := false) hE rfl ?_
   refine wp_skip (x_norm (wp_exit (x_out rfl (x_exit (x_out rfl (x_exit (x_in (x_norm (c_reg R129_12_l ?_)))))))))
   refine q0 p129_12_0 hE (st_move rfl) ?_; clear hE a; intro a hE
   refine q0 p129_12_1 hE (st_move rfl) ?_; clear hE a; intro a hE
   refine q0 p129_12_2 hE (st_conv (z := ((rd l (j : Int)) % 256)) (by kernel_rfl) Try.underlying5 rfl (IntKind.wrap_u8 _)) ?_; clear hE a; intro a hE
   refine p_cons (s_row (xs := [(0, Operand.tmp 45)]) (vs := [(0, Value.int .u8 ((rd l (j : Int)) % 256))]) (cs := #[Value.int .u8 ((rd l (j : Int)) % 256)]) p129_12_3 hE wn_none rfl Try.underlying22 rfl (by kernel_rfl) ?_)
   clear hE a; intro g4 w5 z6 B_g4 hk a hE
   have z_0_g4 := Nat.le_trans K_0.kept.1 z6
   have Nb_o_g4 : ¬ OB A_o g4 := fun h => by have := (own_ob O_o h).2; omega
   replace O_o := own_keep O_o hk (fun _ _ h => h)
   replace K_0 := K_0.then_ hk (fun _ h => h.elim)
   clear hk
   refine p_cons (s_appendC (xs := (X ++ putF 1 (l.take j))) (ys := [((rd l (j : Int)) % 256)]) p129_12_4 hE wn_none rfl Try.underlying22 eD5 rfl O_o rfl (C_blk (k := .u8) (l := [((rd l (j : Int)) % 256)]) (off := 0) B_g4 ⟨rfl, Nat.le_of_ble_eq_true rfl⟩ rfl) (by omega) (by omega) K_0.kept.1 ?_)
   clear hE a; intro Ao7 co8 w9 O_o' hk hat a hE
   have Nb_o_g4' := grow_n Nb_o_g4 (blk_lt B_g4) hat
   have Z_0_o' := grow_z Z_0_o K_0.kept.1 hat
   replace B_g4 := kp_blk B_g4 hk Nb_o_g4
   replace K_0 := K_0.then_ hk Z_0_o
   replace Nb_o_g4 := Nb_o_g4'
   replace Z_0_o := Z_0_o'
   replace O_o : w9.ownsRow _ 5 1 (.slice Ao7 (n_o + 1) co8) (n_o + 1) (encs (Value.int .u8) ((X ++ putF 1 (l.take j)) ++ [((rd l (j : Int)) % 256)])) := O_o'
   clear O_o' hk hat
   refine q0 p129_12_5 hE (st_assign rfl) ?_; clear hE a; intro a hE
   refine p_nil (x_norm (wp_exit (x_in (x_norm (c_reg R129_13_l ?_)))))
   refine q0 p129_13_0 hE (st_move rfl) ?_; clear hE a; intro a hE
   refine q0 p129_13_1 hE (st_len Try.underlying22 rfl) ?_; clear hE a; intro a hE
   refine q0 p129_13_2 hE (st_gtr (b := false) rfl rfl (decide_eq_false (by omega))) ?_; clear hE a; intro a hE
   refine p_nil (x_norm ?_)
   refine c_cond (t := false) hE rfl ?_
   refine wp_skip (x_normB (x_norm (c_regL R129_15_l ?_)))
   refine q0 p129_15_0 hE (st_add (z := (j : Int) + 1) rfl rfl (wr_i64 _ (by omega) (by omega))) ?_; clear hE a; intro a hE
   refine q0 p129_15_1 hE (st_move rfl) ?_; clear hE a; intro a hE
   refine p_nil (x_norm ?_)
   have e9 : ((X ++ putF 1 (l.take j)) ++ [((rd l (j : Int)) % 256)]) = (X ++ putF 1 (l.take (j + 1))) := by rw [put_take 1 l j hjl]; simp [digF]
   rw [e9] at O_o
   exact ⟨j + 1, by omega, Ao7, co8, (n_o + 1), En.sub hE ⟨rfl, rfl, rfl, rfl, rfl, rfl, rfl, rfl, trivial⟩, (by omega), (by rw [← e9]; simp only [List.length_append, List.length_cons, List.length_nil, ← hn_o]), O_o, Z_0_o, K_0⟩
  ·
   refine c_reg R129_5_l ?_
   refine q0 p129_5_0 hE (st_lss (b := false) rfl rfl (decide_eq_false hK1)) ?_; clear hE a; intro a hE
   refine p_nil (x_norm (wp_seq ?_))
   refine c_cond (t := false) hE rfl ?_
   refine wp_exit (x_exit (x_exit (x_in (x_norm (wp_seq (c_reg R129_16_l ?_))))))
   have hpl := put_len 1 l j
   have hno : n_o = X.length + (putF 1 (l.take j)).length := by rw [hn_o, List.length_append]
   refine q0 p129_16_0 hE (st_move rfl) ?_; clear hE a; intro a hE
   refine q0 p129_16_1 hE (st_len Try.underlying22 rfl) ?_; clear hE a; intro a hE
   refine q0 p129_16_2 hE (st_gtr (b := false) rfl rfl (decide_eq_false (by omega))) ?_; clear hE a; intro a hE
   refine p_nil (x_norm ?_)
   refine c_cond (t := false) hE rfl ?_
   refine wp_skip (x_norm (c_reg R129_18_l ?_))
   refine q0 p129_18_0 hE (st_move rfl) ?_; clear hE a; intro a hE
   refine q0 p129_18_1 hE (st_assign rfl) ?_; clear hE a; intro a hE
   refine q0 p129_18_2 hE (st_assign rfl) ?_; clear hE a; intro a hE
   refine p_nil (x_norm (wp_ret ?_))
   refine ret_list (rs := [.tmp 6, .tmp 7]) (vs := [Value.slice A_o n_o c_o, Value.int .i64 0]) rfl hE (.tmp rfl (.tmp rfl .nil)) rfl ?_
   obtain rfl : j = l.length := by omega
   rw [List.take_length] at O_o hn_o
   subst hn_o
   exact ⟨_, rfl, O_o, K_0.to (Nat.le_refl _) (fun _ h => h.elim)⟩
theorem p129_11_0 : pj (regOf Try.f129 11) 0 = some (some 37, .move (.tmp 8), 22, none) := by kernel_rfl
theorem p129_11_1 : pj (regOf Try.f129 11) 1 = some (some 38, .move (.tmp 10), 3, none) := by kernel_rfl
theorem p129_11_2 : pj (regOf Try.f129 11) 2 = some (some 39, .binOp .shr 3 (.tmp 38) (.const (.int .u64 8)) 232, 3, none) := by kernel_rfl
theorem p129_11_3 : pj (regOf Try.f129 11) 3 = some (some 40, .convert 3 5 (.tmp 39), 5, none) := by kernel_rfl
theorem p129_11_4 : pj (regOf Try.f129 11) 4 = some (some 41, .buildSlice 22 1 #[(0, .tmp 40)], 22, none) := by kernel_rfl
theorem p129_11_5 : pj (regOf Try.f129 11) 5 = some (some 42, .call { callee := .builtin .append, args := #[.tmp 37, .tmp 41], argTypes := #[22, 22] }, 22, none) := by kernel_rfl
theorem p129_11_6 : pj (regOf Try.f129 11) 6 = some (some 8, .assign (.tmp 42), 22, none) := by kernel_rfl
set_option maxHeartbeats 4000000 in
theorem put_k2 (A B : Option Addr) (c cl : Nat) (X l : List Int) (hf : fitsF 2 l = true) (w : World) (hb : Kd.C (Kd.int .u8) w A X.length X) (h : Kd.C (Kd.int .i64) w B l.length l) (hc : l.length ≤ cl) (hlen : (X ++ putF 2 l).length ≤ 1280) : Calls Try.prog 129 #[.slice A X.length c, .int .i64 2, .slice B l.length cl] w fun e w' => ∃ v, e = .returned (.tuple #[v, .int .i64 0]) ∧ w'.ownsRow w.heap.size 5 1 v (X ++ putF 2 l).length (encs (Value.int .u8) (X ++ putF 2 l)) ∧ Below w.heap.size w w' := by
 have K_0 := Kp.refl w (fun _ => False)
 have hlmx := h.2.1
 have hfa := fits_at hf
 have hsp : spanF 2 = 65536 := rfl
 rw [hsp] at hfa
 have hXl := hlen
 rw [List.length_append] at hXl
 refine enter (args := [Value.slice A X.length c, Value.int .i64 2, Value.slice B l.length cl]) (n := 56) Try.func129 body129 rfl rfl rfl ?_
 intro a hE
 refine c_reg R129_0_l ?_
 refine q0 p129_0_0 hE (st_assign rfl) ?_; clear hE a; intro a hE
 refine q0 p129_0_1 hE (st_assign rfl) ?_; clear hE a; intro a hE
 refine p_nil (x_norm (wp_seq (c_reg R129_1_l ?_)))
 refine q0 p129_1_0 hE (st_move rfl) ?_; clear hE a; intro a hE
 refine q0 p129_1_1 hE (st_move rfl) ?_; clear hE a; intro a hE
 refine p_cons (s_call (xs := [Operand.tmp 11, Operand.tmp 12]) (args := [Value.int .i64 2, Value.slice B l.length cl]) p129_1_2 hE wn_none rfl rfl Try.func83 cl83 (fits_any B cl 2 l true hf _ (C_to h K_0) hc) ?_)
 rintro e w1 ⟨rfl, hk⟩
 replace K_0 := K_0.then_ hk (fun _ h => h.elim)
 refine ⟨_, rfl, ?_⟩; clear hE a; intro a hE
 refine q0 p129_1_3 hE (st_not rfl rfl) ?_; clear hE a; intro a hE
 refine p_nil (x_norm ?_)
 refine c_cond (t := false) hE rfl ?_
 refine wp_skip (x_norm (c_reg R129_3_l ?_))
 refine q0 p129_3_0 hE (st_move rfl) ?_; clear hE a; intro a hE
 have hnz_0 := K_0.kept.1
 refine p_cons (s_call (xs := [Operand.tmp 15]) (args := [Value.slice A X.length c]) p129_3_1 hE wn_none rfl rfl Try.func123 cl123 (clone_b A c X _ (C_to hb K_0) (by have := hXl; omega)) ?_)
 rintro e w2 ⟨A1, c1, rfl, O_o, hk⟩
 replace K_0 := K_0.then_ hk (fun _ h => h.elim)
 have Z_0_o : ∀ k, OB A1 k → (fun _ => False) k ∨ w.heap.size ≤ k := fun k h => .inr (by have := (own_ob O_o h).1; have := hnz_0; omega)
 replace O_o := own_lower O_o hnz_0
 refine ⟨_, rfl, ?_⟩; clear hE a; intro a hE
 refine q0 p129_3_2 hE (st_assign rfl) ?_; clear hE a; intro a hE
 refine p_nil (x_norm (wp_seq (c_reg R129_4_l ?_)))
 refine q0 p129_4_0 hE (st_move rfl) ?_; clear hE a; intro a hE
 refine q0 p129_4_1 hE (st_len Try.underlying42 rfl) ?_; clear hE a; intro a hE
 refine q0 p129_4_2 hE (st_move rfl) ?_; clear hE a; intro a hE
 refine p_nil (x_norm (wp_block ?_))
 have O_o0 := O_o
 replace O_o : w2.ownsRow w.heap.size 5 1 (.slice A1 X.length c1) X.length (encs (Value.int .u8) (X ++ putF 2 (l.take 0))) := by simpa [putF] using O_o0
 refine c_loop (α := Nat) (fun j a W => ∃ (A_o : Option Addr) (c_o : Nat) (n_o : Nat), En 56 a [(0, Value.slice A X.length c), (1, Value.int .i64 2), (2, Value.slice B l.length cl), (14, Value.bool false), (17, Value.slice B l.length cl), (18, Value.int .i64 (l.length : Int)), (19, Value.int .i64 (j : Int)), (8, Value.slice A_o n_o c_o)] ∧ j ≤ l.length ∧ n_o = (X ++ putF 2 (l.take j)).length ∧ W.ownsRow w.heap.size 5 1 (.slice A_o n_o c_o) n_o (encs (Value.int .u8) (X ++ putF 2 (l.take j))) ∧ (∀ k, OB A_o k → (fun _ => False) k ∨ w.heap.size ≤ k) ∧ Kp w W (fun _ => False)) (fun j => l.length - j) (0) ?_ ?_
 ·
  exact ⟨A1, c1, X.length, En.sub hE ⟨rfl, rfl, rfl, rfl, rfl, rfl, rfl, rfl, trivial⟩, Nat.zero_le _, (by simp [putF]), O_o, Z_0_o, K_0⟩
 ·
  clear hE a
  rintro j a w3 ⟨A_o, c_o, n_o, hE, hj9, hn_o, O_o, Z_0_o, K_0⟩
  rcases Decidable.em ((j : Int) < (l.length : Int)) with hK1 | hK1
  ·
   refine c_reg R129_5_l ?_
   refine q0 p129_5_0 hE (st_lss (b := true) rfl rfl (decide_eq_true hK1)) ?_; clear hE a; intro a hE
   refine p_nil (x_norm (wp_seq ?_))
   refine c_cond (t := true) hE rfl ?_
   refine wp_skip (x_norm (wp_seq (wp_block (c_reg R129_6_l ?_))))
   have hjl : j < l.length := by omega
   have hfj := hfa.2 j hjl
   have hpl := put_len 2 l (j + 1)
   have hpt := congrArg List.length (put_take 2 l j hjl)
   have hdl : (digF 2 (rd l (j : Int))).length = 2 := rfl
   rw [List.length_append] at hpt
   have hno : n_o = X.length + (putF 2 (l.take j)).length := by rw [hn_o, List.length_append]
   refine q0 p129_6_0 hE (st_indexAddrC (i := j) Try.underlying42 tS3 (C_to h K_0) rfl rfl (by omega)) ?_; clear hE a; intro a hE
   refine q0 (v := Value.int .i64 (rd l (j : Int))) p129_6_1 hE (st_loadC (i := j) tA3 (C_to h K_0) (by omega) rfl) ?_; clear hE a; intro a hE
   refine q0 p129_6_2 hE (st_assign rfl) ?_; clear hE a; intro a hE
   refine p_nil (x_norm (wp_seq (c_reg R129_7_l ?_)))
   refine q0 p129_7_0 hE (st_move rfl) ?_; clear hE a; intro a hE
   refine p_nil (x_norm (wp_block (wp_seq (wp_block (wp_seq (wp_block (wp_seq (wp_block (wp_seq (wp_seq (c_reg R129_8_l ?_)))))))))))
   refine q0 p129_8_0 hE (st_eql (b := false) rfl rfl (by decide)) ?_; clear hE a; intro a hE
   refine q0 p129_8_1 hE (st_assign rfl) ?_; clear hE a; intro a hE
   refine p_nil (x_norm ?_)
   refine c_cond (t := false) hE rfl ?_
   refine wp_skip (x_norm (c_reg R129_9_l ?_))
   refine q0 p129_9_0 hE (st_eql (b := true) rfl rfl (by decide)) ?_; clear hE a; intro a hE
   refine q0 p129_9_1 hE (st_assign rfl) ?_; clear hE a; intro a hE
   refine p_nil (x_norm ?_)
   refine c_cond (t := true) hE rfl ?_
   refine wp_exit (x_exit (x_out rfl (x_exit (x_in (x_norm (c_regL R129_11_l ?_))))))
   refine q0 p129_11_0 hE (st_move rfl) ?_; clear hE a; intro a hE
   refine q0 p129_11_1 hE (st_move rfl) ?_; clear hE a; intro a hE
   refine q0 p129_11_2 hE (st_shr (z := (rd l (j : Int)) / 256) rfl rfl (by decide) (by decide) (by rfl)) ?_; clear hE a; intro a hE
   refine q0 p129_11_3 hE (st_conv (z := (((rd l (j : Int)) / 256) % 256)) (by kernel_rfl) Try.underlying5 rfl (IntKind.wrap_u8 _)) ?_; clear hE a; intro a hE
   refine p_cons (s_row (xs := [(0, Operand.tmp 40)]) (vs := [(0, Value.int .u8 (((rd l (j : Int)) / 256) % 256))]) (cs := #[Value.int .u8 (((rd l (j : Int)) / 256) % 256)]) p129_11_4 hE wn_none rfl Try.underlying22 rfl (by kernel_rfl) ?_)
   clear hE a; intro g4 w5 z6 B_g4 hk a hE
   have z_0_g4 := Nat.le_trans K_0.kept.1 z6
   have Nb_o_g4 : ¬ OB A_o g4 := fun h => by have := (own_ob O_o h).2; omega
   replace O_o := own_keep O_o hk (fun _ _ h => h)
   replace K_0 := K_0.then_ hk (fun _ h => h.elim)
   clear hk
   refine p_cons (s_appendC (xs := (X ++ putF 2 (l.take j))) (ys := [(((rd l (j : Int)) / 256) % 256)]) p129_11_5 hE wn_none rfl Try.underlying22 eD5 rfl O_o rfl (C_blk (k := .u8) (l := [(((rd l (j : Int)) / 256) % 256)]) (off := 0) B_g4 ⟨rfl, Nat.le_of_ble_eq_true rfl⟩ rfl) (by omega) (by omega) K_0.kept.1 ?_)
   clear hE a; intro Ao7 co8 w9 O_o' hk hat a hE
   have Nb_o_g4' := grow_n Nb_o_g4 (blk_lt B_g4) hat
   have Z_0_o' := grow_z Z_0_o K_0.kept.1 hat
   replace B_g4 := kp_blk B_g4 hk Nb_o_g4
   replace K_0 := K_0.then_ hk Z_0_o
   replace Nb_o_g4 := Nb_o_g4'
   replace Z_0_o := Z_0_o'
   replace O_o : w9.ownsRow _ 5 1 (.slice Ao7 (n_o + 1) co8) (n_o + 1) (encs (Value.int .u8) ((X ++ putF 2 (l.take j)) ++ [(((rd l (j : Int)) / 256) % 256)])) := O_o'
   clear O_o' hk hat
   refine q0 p129_11_6 hE (st_assign rfl) ?_; clear hE a; intro a hE
   refine p_nil (x_normB (x_norm (c_reg R129_12_l ?_)))
   refine q0 p129_12_0 hE (st_move rfl) ?_; clear hE a; intro a hE
   refine q0 p129_12_1 hE (st_move rfl) ?_; clear hE a; intro a hE
   refine q0 p129_12_2 hE (st_conv (z := ((rd l (j : Int)) % 256)) (by kernel_rfl) Try.underlying5 rfl (IntKind.wrap_u8 _)) ?_; clear hE a; intro a hE
   refine p_cons (s_row (xs := [(0, Operand.tmp 45)]) (vs := [(0, Value.int .u8 ((rd l (j : Int)) % 256))]) (cs := #[Value.int .u8 ((rd l (j : Int)) % 256)]) p129_12_3 hE wn_none rfl Try.underlying22 rfl (by kernel_rfl) ?_)
   clear hE a; intro g10 w11 z12 B_g10 hk a hE
   have n_g4_g10 : g4 ≠ g10 := ne_new B_g4 z12
   have z_0_g10 := Nat.le_trans K_0.kept.1 z12
   have Nb_o_g10 : ¬ OB Ao7 g10 := fun h => by have := (own_ob O_o h).2; omega
   replace B_g4 := kp_blk B_g4 hk (fun h => h)
   replace O_o := own_keep O_o hk (fun _ _ h => h)
   replace K_0 := K_0.then_ hk (fun _ h => h.elim)
   clear hk
   refine p_cons (s_appendC (xs := ((X ++ putF 2 (l.take j)) ++ [(((rd l (j : Int)) / 256) % 256)])) (ys := [((rd l (j : Int)) % 256)]) p129_12_4 hE wn_none rfl Try.underlying22 eD5 rfl O_o rfl (C_blk (k := .u8) (l := [((rd l (j : Int)) % 256)]) (off := 0) B_g10 ⟨rfl, Nat.le_of_ble_eq_true rfl⟩ rfl) (by omega) (by omega) K_0.kept.1 ?_)
   clear hE a; intro Ao13 co14 w15 O_o' hk hat a hE
   have Nb_o_g4' := grow_n Nb_o_g4 (blk_lt B_g4) hat
   have Nb_o_g10' := grow_n Nb_o_g10 (blk_lt B_g10) hat
   have Z_0_o' := grow_z Z_0_o K_0.kept.1 hat
   replace B_g4 := kp_blk B_g4 hk Nb_o_g4
   replace B_g10 := kp_blk B_g10 hk Nb_o_g10
   replace K_0 := K_0.then_ hk Z_0_o
   replace Nb_o_g4 := Nb_o_g4'
   replace Nb_o_g10 := Nb_o_g10'
   replace Z_0_o := Z_0_o'
   replace O_o : w15.ownsRow _ 5 1 (.slice Ao13 ((n_o + 1) + 1) co14) ((n_o + 1) + 1) (encs (Value.int .u8) (((X ++ putF 2 (l.take j)) ++ [(((rd l (j : Int)) / 256) % 256)]) ++ [((rd l (j : Int)) % 256)])) := O_o'
   clear O_o' hk hat
   refine q0 p129_12_5 hE (st_assign rfl) ?_; clear hE a; intro a hE
   refine p_nil (x_norm (wp_exit (x_in (x_norm (c_reg R129_13_l ?_)))))
   refine q0 p129_13_0 hE (st_move rfl) ?_; clear hE a; intro a hE
   refine q0 p129_13_1 hE (st_len Try.underlying22 rfl) ?_; clear hE a; intro a hE
   refine q0 p129_13_2 hE (st_gtr (b := false) rfl rfl (decide_eq_false (by omega))) ?_; clear hE a; intro a hE
   refine p_nil (x_norm ?_)
   refine c_cond (t := false) hE rfl ?_
   refine wp_skip (x_normB (x_norm (c_regL R129_15_l ?_)))
   refine q0 p129_15_0 hE (st_add (z := (j : Int) + 1) rfl rfl (wr_i64 _ (by omega) (by omega))) ?_; clear hE a; intro a hE
   refine q0 p129_15_1 hE (st_move rfl) ?_; clear hE a; intro a hE
   refine p_nil (x_norm ?_)
   have e9 : (((X ++ putF 2 (l.take j)) ++ [(((rd l (j : Int)) / 256) % 256)]) ++ [((rd l (j : Int)) % 256)]) = (X ++ putF 2 (l.take (j + 1))) := by rw [put_take 2 l j hjl]; simp [digF]
   rw [e9] at O_o
   exact ⟨j + 1, by omega, Ao13, co14, ((n_o + 1) + 1), En.sub hE ⟨rfl, rfl, rfl, rfl, rfl, rfl, rfl, rfl, trivial⟩, (by omega), (by rw [← e9]; simp only [List.length_append, List.length_cons, List.length_nil, ← hn_o]), O_o, Z_0_o, K_0⟩
  ·
   refine c_reg R129_5_l ?_
   refine q0 p129_5_0 hE (st_lss (b := false) rfl rfl (decide_eq_false hK1)) ?_; clear hE a; intro a hE
   refine p_nil (x_norm (wp_seq ?_))
   refine c_cond (t := false) hE rfl ?_
   refine wp_exit (x_exit (x_exit (x_in (x_norm (wp_seq (c_reg R129_16_l ?_))))))
   have hpl := put_len 2 l j
   have hno : n_o = X.length + (putF 2 (l.take j)).length := by rw [hn_o, List.length_append]
   refine q0 p129_16_0 hE (st_move rfl) ?_; clear hE a; intro a hE
   refine q0 p129_16_1 hE (st_len Try.underlying22 rfl) ?_; clear hE a; intro a hE
   refine q0 p129_16_2 hE (st_gtr (b := false) rfl rfl (decide_eq_false (by omega))) ?_; clear hE a; intro a hE
   refine p_nil (x_norm ?_)
   refine c_cond (t := false) hE rfl ?_
   refine wp_skip (x_norm (c_reg R129_18_l ?_))
   refine q0 p129_18_0 hE (st_move rfl) ?_; clear hE a; intro a hE
   refine q0 p129_18_1 hE (st_assign rfl) ?_; clear hE a; intro a hE
   refine q0 p129_18_2 hE (st_assign rfl) ?_; clear hE a; intro a hE
   refine p_nil (x_norm (wp_ret ?_))
   refine ret_list (rs := [.tmp 6, .tmp 7]) (vs := [Value.slice A_o n_o c_o, Value.int .i64 0]) rfl hE (.tmp rfl (.tmp rfl .nil)) rfl ?_
   obtain rfl : j = l.length := by omega
   rw [List.take_length] at O_o hn_o
   subst hn_o
   exact ⟨_, rfl, O_o, K_0.to (Nat.le_refl _) (fun _ h => h.elim)⟩
theorem p129_10_0 : pj (regOf Try.f129 10) 0 = some (some 28, .move (.tmp 8), 22, none) := by kernel_rfl
theorem p129_10_1 : pj (regOf Try.f129 10) 1 = some (some 29, .move (.tmp 10), 3, none) := by kernel_rfl
theorem p129_10_2 : pj (regOf Try.f129 10) 2 = some (some 30, .binOp .shr 3 (.tmp 29) (.const (.int .u64 24)) 232, 3, none) := by kernel_rfl
theorem p129_10_3 : pj (regOf Try.f129 10) 3 = some (some 31, .convert 3 5 (.tmp 30), 5, none) := by kernel_rfl
theorem p129_10_4 : pj (regOf Try.f129 10) 4 = some (some 32, .move (.tmp 10), 3, none) := by kernel_rfl
theorem p129_10_5 : pj (regOf Try.f129 10) 5 = some (some 33, .binOp .shr 3 (.tmp 32) (.const (.int .u64 16)) 232, 3, none) := by kernel_rfl
theorem p129_10_6 : pj (regOf Try.f129 10) 6 = some (some 34, .convert 3 5 (.tmp 33), 5, none) := by kernel_rfl
theorem p129_10_7 : pj (regOf Try.f129 10) 7 = some (some 35, .buildSlice 22 2 #[(0, .tmp 31), (1, .tmp 34)], 22, none) := by kernel_rfl
theorem p129_10_8 : pj (regOf Try.f129 10) 8 = some (some 36, .call { callee := .builtin .append, args := #[.tmp 28, .tmp 35], argTypes := #[22, 22] }, 22, none) := by kernel_rfl
theorem p129_10_9 : pj (regOf Try.f129 10) 9 = some (some 8, .assign (.tmp 36), 22, none) := by kernel_rfl
set_option maxHeartbeats 4000000 in
theorem put_k4 (A B : Option Addr) (c cl : Nat) (X l : List Int) (hf : fitsF 4 l = true) (w : World) (hb : Kd.C (Kd.int .u8) w A X.length X) (h : Kd.C (Kd.int .i64) w B l.length l) (hc : l.length ≤ cl) (hlen : (X ++ putF 4 l).length ≤ 1280) : Calls Try.prog 129 #[.slice A X.length c, .int .i64 4, .slice B l.length cl] w fun e w' => ∃ v, e = .returned (.tuple #[v, .int .i64 0]) ∧ w'.ownsRow w.heap.size 5 1 v (X ++ putF 4 l).length (encs (Value.int .u8) (X ++ putF 4 l)) ∧ Below w.heap.size w w' := by
 have K_0 := Kp.refl w (fun _ => False)
 have hlmx := h.2.1
 have hfa := fits_at hf
 have hsp : spanF 4 = 4294967296 := rfl
 rw [hsp] at hfa
 have hXl := hlen
 rw [List.length_append] at hXl
 refine enter (args := [Value.slice A X.length c, Value.int .i64 4, Value.slice B l.length cl]) (n := 56) Try.func129 body129 rfl rfl rfl ?_
 intro a hE
 refine c_reg R129_0_l ?_
 refine q0 p129_0_0 hE (st_assign rfl) ?_; clear hE a; intro a hE
 refine q0 p129_0_1 hE (st_assign rfl) ?_; clear hE a; intro a hE
 refine p_nil (x_norm (wp_seq (c_reg R129_1_l ?_)))
 refine q0 p129_1_0 hE (st_move rfl) ?_; clear hE a; intro a hE
 refine q0 p129_1_1 hE (st_move rfl) ?_; clear hE a; intro a hE
 refine p_cons (s_call (xs := [Operand.tmp 11, Operand.tmp 12]) (args := [Value.int .i64 4, Value.slice B l.length cl]) p129_1_2 hE wn_none rfl rfl Try.func83 cl83 (fits_any B cl 4 l true hf _ (C_to h K_0) hc) ?_)
 rintro e w1 ⟨rfl, hk⟩
 replace K_0 := K_0.then_ hk (fun _ h => h.elim)
 refine ⟨_, rfl, ?_⟩; clear hE a; intro a hE
 refine q0 p129_1_3 hE (st_not rfl rfl) ?_; clear hE a; intro a hE
 refine p_nil (x_norm ?_)
 refine c_cond (t := false) hE rfl ?_
 refine wp_skip (x_norm (c_reg R129_3_l ?_))
 refine q0 p129_3_0 hE (st_move rfl) ?_; clear hE a; intro a hE
 have hnz_0 := K_0.kept.1
 refine p_cons (s_call (xs := [Operand.tmp 15]) (args := [Value.slice A X.length c]) p129_3_1 hE wn_none rfl rfl Try.func123 cl123 (clone_b A c X _ (C_to hb K_0) (by have := hXl; omega)) ?_)
 rintro e w2 ⟨A1, c1, rfl, O_o, hk⟩
 replace K_0 := K_0.then_ hk (fun _ h => h.elim)
 have Z_0_o : ∀ k, OB A1 k → (fun _ => False) k ∨ w.heap.size ≤ k := fun k h => .inr (by have := (own_ob O_o h).1; have := hnz_0; omega)
 replace O_o := own_lower O_o hnz_0
 refine ⟨_, rfl, ?_⟩; clear hE a; intro a hE
 refine q0 p129_3_2 hE (st_assign rfl) ?_; clear hE a; intro a hE
 refine p_nil (x_norm (wp_seq (c_reg R129_4_l ?_)))
 refine q0 p129_4_0 hE (st_move rfl) ?_; clear hE a; intro a hE
 refine q0 p129_4_1 hE (st_len Try.underlying42 rfl) ?_; clear hE a; intro a hE
 refine q0 p129_4_2 hE (st_move rfl) ?_; clear hE a; intro a hE
 refine p_nil (x_norm (wp_block ?_))
 have O_o0 := O_o
 replace O_o : w2.ownsRow w.heap.size 5 1 (.slice A1 X.length c1) X.length (encs (Value.int .u8) (X ++ putF 4 (l.take 0))) := by simpa [putF] using O_o0
 refine c_loop (α := Nat) (fun j a W => ∃ (A_o : Option Addr) (c_o : Nat) (n_o : Nat), En 56 a [(0, Value.slice A X.length c), (1, Value.int .i64 4), (2, Value.slice B l.length cl), (14, Value.bool false), (17, Value.slice B l.length cl), (18, Value.int .i64 (l.length : Int)), (19, Value.int .i64 (j : Int)), (8, Value.slice A_o n_o c_o)] ∧ j ≤ l.length ∧ n_o = (X ++ putF 4 (l.take j)).length ∧ W.ownsRow w.heap.size 5 1 (.slice A_o n_o c_o) n_o (encs (Value.int .u8) (X ++ putF 4 (l.take j))) ∧ (∀ k, OB A_o k → (fun _ => False) k ∨ w.heap.size ≤ k) ∧ Kp w W (fun _ => False)) (fun j => l.length - j) (0) ?_ ?_
 ·
  exact ⟨A1, c1, X.length, En.sub hE ⟨rfl, rfl, rfl, rfl, rfl, rfl, rfl, rfl, trivial⟩, Nat.zero_le _, (by simp [putF]), O_o, Z_0_o, K_0⟩
 ·
  clear hE a
  rintro j a w3 ⟨A_o, c_o, n_o, hE, hj9, hn_o, O_o, Z_0_o, K_0⟩
  rcases Decidable.em ((j : Int) < (l.length : Int)) with hK1 | hK1
  ·
   refine c_reg R129_5_l ?_
   refine q0 p129_5_0 hE (st_lss (b := true) rfl rfl (decide_eq_true hK1)) ?_; clear hE a; intro a hE
   refine p_nil (x_norm (wp_seq ?_))
   refine c_cond (t := true) hE rfl ?_
   refine wp_skip (x_norm (wp_seq (wp_block (c_reg R129_6_l ?_))))
   have hjl : j < l.length := by omega
   have hfj := hfa.2 j hjl
   have hpl := put_len 4 l (j + 1)
   have hpt := congrArg List.length (put_take 4 l j hjl)
   have hdl : (digF 4 (rd l (j : Int))).length = 4 := rfl
   rw [List.length_append] at hpt
   have hno : n_o = X.length + (putF 4 (l.take j)).length := by rw [hn_o, List.length_append]
   refine q0 p129_6_0 hE (st_indexAddrC (i := j) Try.underlying42 tS3 (C_to h K_0) rfl rfl (by omega)) ?_; clear hE a; intro a hE
   refine q0 (v := Value.int .i64 (rd l (j : Int))) p129_6_1 hE (st_loadC (i := j) tA3 (C_to h K_0) (by omega) rfl) ?_; clear hE a; intro a hE
   refine q0 p129_6_2 hE (st_assign rfl) ?_; clear hE a; intro a hE
   refine p_nil (x_norm (wp_seq (c_reg R129_7_l ?_)))
   refine q0 p129_7_0 hE (st_move rfl) ?_; clear hE a; intro a hE
   refine p_nil (x_norm (wp_block (wp_seq (wp_block (wp_seq (wp_block (wp_seq (wp_block (wp_seq (wp_seq (c_reg R129_8_l ?_)))))))))))
   refine q0 p129_8_0 hE (st_eql (b := true) rfl rfl (by decide)) ?_; clear hE a; intro a hE
   refine q0 p129_8_1 hE (st_assign rfl) ?_; clear hE a; intro a hE
   refine p_nil (x_norm ?_)
   refine c_cond (t := true) hE rfl ?_
   refine wp_exit (x_exit (x_exit (x_in (x_norm (c_regL R129_10_l ?_)))))
   refine q0 p129_10_0 hE (st_move rfl) ?_; clear hE a; intro a hE
   refine q0 p129_10_1 hE (st_move rfl) ?_; clear hE a; intro a hE
   refine q0 p129_10_2 hE (st_shr (z := (rd l (j : Int)) / 16777216) rfl rfl (by decide) (by decide) (by rfl)) ?_; clear hE a; intro a hE
   refine q0 p129_10_3 hE (st_conv (z := (((rd l (j : Int)) / 16777216) % 256)) (by kernel_rfl) Try.underlying5 rfl (IntKind.wrap_u8 _)) ?_; clear hE a; intro a hE
   refine q0 p129_10_4 hE (st_move rfl) ?_; clear hE a; intro a hE
   refine q0 p129_10_5 hE (st_shr (z := (rd l (j : Int)) / 65536) rfl rfl (by decide) (by decide) (by rfl)) ?_; clear hE a; intro a hE
   refine q0 p129_10_6 hE (st_conv (z := (((rd l (j : Int)) / 65536) % 256)) (by kernel_rfl) Try.underlying5 rfl (IntKind.wrap_u8 _)) ?_; clear hE a; intro a hE
   refine p_cons (s_row (xs := [(0, Operand.tmp 31), (1, Operand.tmp 34)]) (vs := [(0, Value.int .u8 (((rd l (j : Int)) / 16777216) % 256)), (1, Value.int .u8 (((rd l (j : Int)) / 65536) % 256))]) (cs := #[Value.int .u8 (((rd l (j : Int)) / 16777216) % 256), Value.int .u8 (((rd l (j : Int)) / 65536) % 256)]) p129_10_7 hE wn_none rfl Try.underlying22 rfl (by kernel_rfl) ?_)
   clear hE a; intro g4 w5 z6 B_g4 hk a hE
   have z_0_g4 := Nat.le_trans K_0.kept.1 z6
   have Nb_o_g4 : ¬ OB A_o g4 := fun h => by have := (own_ob O_o h).2; omega
   replace O_o := own_keep O_o hk (fun _ _ h => h)
   replace K_0 := K_0.then_ hk (fun _ h => h.elim)
   clear hk
   refine p_cons (s_appendC (xs := (X ++ putF 4 (l.take j))) (ys := [(((rd l (j : Int)) / 16777216) % 256), (((rd l (j : Int)) / 65536) % 256)]) p129_10_8 hE wn_none rfl Try.underlying22 eD5 rfl O_o rfl (C_blk (k := .u8) (l := [(((rd l (j : Int)) / 16777216) % 256), (((rd l (j : Int)) / 65536) % 256)]) (off := 0) B_g4 ⟨rfl, Nat.le_of_ble_eq_true rfl⟩ rfl) (by omega) (by omega) K_0.kept.1 ?_)
   clear hE a; intro Ao7 co8 w9 O_o' hk hat a hE
   have Nb_o_g4' := grow_n Nb_o_g4 (blk_lt B_g4) hat
   have Z_0_o' := grow_z Z_0_o K_0.kept.1 hat
   replace B_g4 := kp_blk B_g4 hk Nb_o_g4
   replace K_0 := K_0.then_ hk Z_0_o
   replace Nb_o_g4 := Nb_o_g4'
   replace Z_0_o := Z_0_o'
   replace O_o : w9.ownsRow _ 5 1 (.slice Ao7 (n_o + 2) co8) (n_o + 2) (encs (Value.int .u8) ((X ++ putF 4 (l.take j)) ++ [(((rd l (j : Int)) / 16777216) % 256), (((rd l (j : Int)) / 65536) % 256)])) := O_o'
   clear O_o' hk hat
   refine q0 p129_10_9 hE (st_assign rfl) ?_; clear hE a; intro a hE
   refine p_nil (x_normB (x_norm (c_regL R129_11_l ?_)))
   refine q0 p129_11_0 hE (st_move rfl) ?_; clear hE a; intro a hE
   refine q0 p129_11_1 hE (st_move rfl) ?_; clear hE a; intro a hE
   refine q0 p129_11_2 hE (st_shr (z := (rd l (j : Int)) / 256) rfl rfl (by decide) (by decide) (by rfl)) ?_; clear hE a; intro a hE
   refine q0 p129_11_3 hE (st_conv (z := (((rd l (j : Int)) / 256) % 256)) (by kernel_rfl) Try.underlying5 rfl (IntKind.wrap_u8 _)) ?_; clear hE a; intro a hE
   refine p_cons (s_row (xs := [(0, Operand.tmp 40)]) (vs := [(0, Value.int .u8 (((rd l (j : Int)) / 256) % 256))]) (cs := #[Value.int .u8 (((rd l (j : Int)) / 256) % 256)]) p129_11_4 hE wn_none rfl Try.underlying22 rfl (by kernel_rfl) ?_)
   clear hE a; intro g10 w11 z12 B_g10 hk a hE
   have n_g4_g10 : g4 ≠ g10 := ne_new B_g4 z12
   have z_0_g10 := Nat.le_trans K_0.kept.1 z12
   have Nb_o_g10 : ¬ OB Ao7 g10 := fun h => by have := (own_ob O_o h).2; omega
   replace B_g4 := kp_blk B_g4 hk (fun h => h)
   replace O_o := own_keep O_o hk (fun _ _ h => h)
   replace K_0 := K_0.then_ hk (fun _ h => h.elim)
   clear hk
   refine p_cons (s_appendC (xs := ((X ++ putF 4 (l.take j)) ++ [(((rd l (j : Int)) / 16777216) % 256), (((rd l (j : Int)) / 65536) % 256)])) (ys := [(((rd l (j : Int)) / 256) % 256)]) p129_11_5 hE wn_none rfl Try.underlying22 eD5 rfl O_o rfl (C_blk (k := .u8) (l := [(((rd l (j : Int)) / 256) % 256)]) (off := 0) B_g10 ⟨rfl, Nat.le_of_ble_eq_true rfl⟩ rfl) (by omega) (by omega) K_0.kept.1 ?_)
   clear hE a; intro Ao13 co14 w15 O_o' hk hat a hE
   have Nb_o_g4' := grow_n Nb_o_g4 (blk_lt B_g4) hat
   have Nb_o_g10' := grow_n Nb_o_g10 (blk_lt B_g10) hat
   have Z_0_o' := grow_z Z_0_o K_0.kept.1 hat
   replace B_g4 := kp_blk B_g4 hk Nb_o_g4
   replace B_g10 := kp_blk B_g10 hk Nb_o_g10
   replace K_0 := K_0.then_ hk Z_0_o
   replace Nb_o_g4 := Nb_o_g4'
   replace Nb_o_g10 := Nb_o_g10'
   replace Z_0_o := Z_0_o'
   replace O_o : w15.ownsRow _ 5 1 (.slice Ao13 ((n_o + 2) + 1) co14) ((n_o + 2) + 1) (encs (Value.int .u8) (((X ++ putF 4 (l.take j)) ++ [(((rd l (j : Int)) / 16777216) % 256), (((rd l (j : Int)) / 65536) % 256)]) ++ [(((rd l (j : Int)) / 256) % 256)])) := O_o'
   clear O_o' hk hat
   refine q0 p129_11_6 hE (st_assign rfl) ?_; clear hE a; intro a hE
   refine p_nil (x_normB (x_norm (c_reg R129_12_l ?_)))
   refine q0 p129_12_0 hE (st_move rfl) ?_; clear hE a; intro a hE
   refine q0 p129_12_1 hE (st_move rfl) ?_; clear hE a; intro a hE
   refine q0 p129_12_2 hE (st_conv (z := ((rd l (j : Int)) % 256)) (by kernel_rfl) Try.underlying5 rfl (IntKind.wrap_u8 _)) ?_; clear hE a; intro a hE
   refine p_cons (s_row (xs := [(0, Operand.tmp 45)]) (vs := [(0, Value.int .u8 ((rd l (j : Int)) % 256))]) (cs := #[Value.int .u8 ((rd l (j : Int)) % 256)]) p129_12_3 hE wn_none rfl Try.underlying22 rfl (by kernel_rfl) ?_)
   clear hE a; intro g16 w17 z18 B_g16 hk a hE
   have n_g4_g16 : g4 ≠ g16 := ne_new B_g4 z18
   have n_g10_g16 : g10 ≠ g16 := ne_new B_g10 z18
   have z_0_g16 := Nat.le_trans K_0.kept.1 z18
   have Nb_o_g16 : ¬ OB Ao13 g16 := fun h => by have := (own_ob O_o h).2; omega
   replace B_g4 := kp_blk B_g4 hk (fun h => h)
   replace B_g10 := kp_blk B_g10 hk (fun h => h)
   replace O_o := own_keep O_o hk (fun _ _ h => h)
   replace K_0 := K_0.then_ hk (fun _ h => h.elim)
   clear hk
   refine p_cons (s_appendC (xs := (((X ++ putF 4 (l.take j)) ++ [(((rd l (j : Int)) / 16777216) % 256), (((rd l (j : Int)) / 65536) % 256)]) ++ [(((rd l (j : Int)) / 256) % 256)])) (ys := [((rd l (j : Int)) % 256)]) p129_12_4 hE wn_none rfl Try.underlying22 eD5 rfl O_o rfl (C_blk (k := .u8) (l := [((rd l (j : Int)) % 256)]) (off := 0) B_g16 ⟨rfl, Nat.le_of_ble_eq_true rfl⟩ rfl) (by omega) (by omega) K_0.kept.1 ?_)
   clear hE a; intro Ao19 co20 w21 O_o' hk hat a hE
   have Nb_o_g4' := grow_n Nb_o_g4 (blk_lt B_g4) hat
   have Nb_o_g10' := grow_n Nb_o_g10 (blk_lt B_g10) hat
   have Nb_o_g16' := grow_n Nb_o_g16 (blk_lt B_g16) hat
   have Z_0_o' := grow_z Z_0_o K_0.kept.1 hat
   replace B_g4 := kp_blk B_g4 hk Nb_o_g4
   replace B_g10 := kp_blk B_g10 hk Nb_o_g10
   replace B_g16 := kp_blk B_g16 hk Nb_o_g16
   replace K_0 := K_0.then_ hk Z_0_o
   replace Nb_o_g4 := Nb_o_g4'
   replace Nb_o_g10 := Nb_o_g10'
   replace Nb_o_g16 := Nb_o_g16'
   replace Z_0_o := Z_0_o'
   replace O_o : w21.ownsRow _ 5 1 (.slice Ao19 (((n_o + 2) + 1) + 1) co20) (((n_o + 2) + 1) + 1) (encs (Value.int .u8) ((((X ++ putF 4 (l.take j)) ++ [(((rd l (j : Int)) / 16777216) % 256), (((rd l (j : Int)) / 65536) % 256)]) ++ [(((rd l (j : Int)) / 256) % 256)]) ++ [((rd l (j : Int)) % 256)])) := O_o'
   clear O_o' hk hat
   refine q0 p129_12_5 hE (st_assign rfl) ?_; clear hE a; intro a hE
   refine p_nil (x_norm (wp_exit (x_in (x_norm (c_reg R129_13_l ?_)))))
   refine q0 p129_13_0 hE (st_move rfl) ?_; clear hE a; intro a hE
   refine q0 p129_13_1 hE (st_len Try.underlying22 rfl) ?_; clear hE a; intro a hE
   refine q0 p129_13_2 hE (st_gtr (b := false) rfl rfl (decide_eq_false (by omega))) ?_; clear hE a; intro a hE
   refine p_nil (x_norm ?_)
   refine c_cond (t := false) hE rfl ?_
   refine wp_skip (x_normB (x_norm (c_regL R129_15_l ?_)))
   refine q0 p129_15_0 hE (st_add (z := (j : Int) + 1) rfl rfl (wr_i64 _ (by omega) (by omega))) ?_; clear hE a; intro a hE
   refine q0 p129_15_1 hE (st_move rfl) ?_; clear hE a; intro a hE
   refine p_nil (x_norm ?_)
   have e9 : ((((X ++ putF 4 (l.take j)) ++ [(((rd l (j : Int)) / 16777216) % 256), (((rd l (j : Int)) / 65536) % 256)]) ++ [(((rd l (j : Int)) / 256) % 256)]) ++ [((rd l (j : Int)) % 256)]) = (X ++ putF 4 (l.take (j + 1))) := by rw [put_take 4 l j hjl]; simp [digF]
   rw [e9] at O_o
   exact ⟨j + 1, by omega, Ao19, co20, (((n_o + 2) + 1) + 1), En.sub hE ⟨rfl, rfl, rfl, rfl, rfl, rfl, rfl, rfl, trivial⟩, (by omega), (by rw [← e9]; simp only [List.length_append, List.length_cons, List.length_nil, ← hn_o]), O_o, Z_0_o, K_0⟩
  ·
   refine c_reg R129_5_l ?_
   refine q0 p129_5_0 hE (st_lss (b := false) rfl rfl (decide_eq_false hK1)) ?_; clear hE a; intro a hE
   refine p_nil (x_norm (wp_seq ?_))
   refine c_cond (t := false) hE rfl ?_
   refine wp_exit (x_exit (x_exit (x_in (x_norm (wp_seq (c_reg R129_16_l ?_))))))
   have hpl := put_len 4 l j
   have hno : n_o = X.length + (putF 4 (l.take j)).length := by rw [hn_o, List.length_append]
   refine q0 p129_16_0 hE (st_move rfl) ?_; clear hE a; intro a hE
   refine q0 p129_16_1 hE (st_len Try.underlying22 rfl) ?_; clear hE a; intro a hE
   refine q0 p129_16_2 hE (st_gtr (b := false) rfl rfl (decide_eq_false (by omega))) ?_; clear hE a; intro a hE
   refine p_nil (x_norm ?_)
   refine c_cond (t := false) hE rfl ?_
   refine wp_skip (x_norm (c_reg R129_18_l ?_))
   refine q0 p129_18_0 hE (st_move rfl) ?_; clear hE a; intro a hE
   refine q0 p129_18_1 hE (st_assign rfl) ?_; clear hE a; intro a hE
   refine q0 p129_18_2 hE (st_assign rfl) ?_; clear hE a; intro a hE
   refine p_nil (x_norm (wp_ret ?_))
   refine ret_list (rs := [.tmp 6, .tmp 7]) (vs := [Value.slice A_o n_o c_o, Value.int .i64 0]) rfl hE (.tmp rfl (.tmp rfl .nil)) rfl ?_
   obtain rfl : j = l.length := by omega
   rw [List.take_length] at O_o hn_o
   subst hn_o
   exact ⟨_, rfl, O_o, K_0.to (Nat.le_refl _) (fun _ h => h.elim)⟩
theorem R15_0_l : List.range (regOf Try.f15 0).size = [0] := by kernel_rfl
theorem R15_1_l : List.range (regOf Try.f15 1).size = [0, 1, 2, 3, 4] := by kernel_rfl
theorem R15_2_l : List.range (regOf Try.f15 2).size = [0] := by kernel_rfl
theorem R15_3_l : List.range (regOf Try.f15 3).size = [0] := by kernel_rfl
theorem R15_4_l : List.range (regOf Try.f15 4).size = [0, 1, 2, 3] := by kernel_rfl
theorem R15_7_l : List.range (regOf Try.f15 7).size = [0] := by kernel_rfl
theorem R15_5_l : List.range (regOf Try.f15 5).size = [0, 1, 2] := by kernel_rfl
theorem R15_8_l : List.range (regOf Try.f15 8).size = [0] := by kernel_rfl
theorem body15 : Try.f15.body = some (.seq (.region 0 (regOf Try.f15 0) false) (.seq (.seq (.region 1 (regOf Try.f15 1) false) (.cond (Operand.tmp 10) (.seq (.region 2 (regOf Try.f15 2) false) (.ret)) (.skip))) (.seq (.seq (.region 3 (regOf Try.f15 3) false) (.block 0 (.loop (.seq (.seq (.region 4 (regOf Try.f15 4) false) (.cond (Operand.tmp 14) (.skip) (.exit 0))) (.seq (.block 1 (.seq (.region 6 (regOf Try.f15 6) true) (.cond (Operand.tmp 25) (.seq (.region 7 (regOf Try.f15 7) false) (.ret)) (.skip)))) (.region 5 (regOf Try.f15 5) false)))))) (.seq (.region 8 (regOf Try.f15 8) false) (.ret))))) := by kernel_rfl
theorem p15_0_0 : pj (regOf Try.f15 0) 0 = some (some 4, .assign (.const (.bool false)), 4, none) := by kernel_rfl
theorem p15_1_0 : pj (regOf Try.f15 1) 0 = some (some 6, .move (.tmp 0), 22, none) := by kernel_rfl
theorem p15_1_1 : pj (regOf Try.f15 1) 1 = some (some 7, .call { callee := .builtin .len, args := #[.tmp 6], argTypes := #[22] }, 3, none) := by kernel_rfl
theorem p15_1_2 : pj (regOf Try.f15 1) 2 = some (some 8, .move (.tmp 1), 22, none) := by kernel_rfl
theorem p15_1_3 : pj (regOf Try.f15 1) 3 = some (some 9, .call { callee := .builtin .len, args := #[.tmp 8], argTypes := #[22] }, 3, none) := by kernel_rfl
theorem p15_1_4 : pj (regOf Try.f15 1) 4 = some (some 10, .binOp .neq 3 (.tmp 7) (.tmp 9) 3, 4, none) := by kernel_rfl
theorem p15_3_0 : pj (regOf Try.f15 3) 0 = some (some 5, .assign (.const (.int .i64 0)), 3, none) := by kernel_rfl
theorem p15_4_0 : pj (regOf Try.f15 4) 0 = some (some 11, .move (.tmp 5), 3, none) := by kernel_rfl
theorem p15_4_1 : pj (regOf Try.f15 4) 1 = some (some 12, .move (.tmp 0), 22, none) := by kernel_rfl
theorem p15_4_2 : pj (regOf Try.f15 4) 2 = some (some 13, .call { callee := .builtin .len, args := #[.tmp 12], argTypes := #[22] }, 3, none) := by kernel_rfl
theorem p15_4_3 : pj (regOf Try.f15 4) 3 = some (some 14, .binOp .lss 3 (.tmp 11) (.tmp 13) 3, 4, none) := by kernel_rfl
theorem ns15_6 : Region.noSelect (regOf Try.f15 6) = true := by kernel_rfl
theorem p15_6_0 : pj (regOf Try.f15 6) 0 = some (some 17, .move (.tmp 0), 22, none) := by kernel_rfl
theorem p15_6_1 : pj (regOf Try.f15 6) 1 = some (some 18, .move (.tmp 5), 3, none) := by kernel_rfl
theorem p15_6_2 : pj (regOf Try.f15 6) 2 = some (some 19, .indexAddr 22 (.tmp 17) (.tmp 18), 0, none) := by kernel_rfl
theorem tS5 : (Try.prog.info? 5).map (·.size) = some 1 := by kernel_rfl
theorem p15_6_3 : pj (regOf Try.f15 6) 3 = some (some 20, .load 5 (.tmp 19), 5, none) := by kernel_rfl
theorem tA5 : (Try.prog.underlying 5).map aggD = some false := by kernel_rfl
theorem p15_6_4 : pj (regOf Try.f15 6) 4 = some (some 21, .move (.tmp 1), 22, none) := by kernel_rfl
theorem p15_6_5 : pj (regOf Try.f15 6) 5 = some (some 22, .move (.tmp 5), 3, none) := by kernel_rfl
theorem p15_6_6 : pj (regOf Try.f15 6) 6 = some (some 23, .indexAddr 22 (.tmp 21) (.tmp 22), 0, none) := by kernel_rfl
theorem p15_6_7 : pj (regOf Try.f15 6) 7 = some (some 24, .load 5 (.tmp 23), 5, none) := by kernel_rfl
theorem p15_6_8 : pj (regOf Try.f15 6) 8 = some (some 25, .binOp .neq 5 (.tmp 20) (.tmp 24) 5, 4, none) := by kernel_rfl
theorem p15_5_0 : pj (regOf Try.f15 5) 0 = some (some 15, .move (.tmp 5), 3, none) := by kernel_rfl
theorem p15_5_1 : pj (regOf Try.f15 5) 1 = some (some 16, .binOp .add 3 (.tmp 15) (.const (.int .i64 1)) 3, 3, none) := by kernel_rfl
theorem p15_5_2 : pj (regOf Try.f15 5) 2 = some (some 5, .assign (.tmp 16), 3, none) := by kernel_rfl
theorem p15_7_0 : pj (regOf Try.f15 7) 0 = some (some 4, .assign (.const (.bool false)), 4, none) := by kernel_rfl
theorem p15_8_0 : pj (regOf Try.f15 8) 0 = some (some 4, .assign (.const (.bool true)), 4, none) := by kernel_rfl
theorem p15_2_0 : pj (regOf Try.f15 2) 0 = some (some 4, .assign (.const (.bool false)), 4, none) := by kernel_rfl
set_option maxHeartbeats 4000000 in
theorem same_any (A0 A1 : Option Addr) (c0 c1 : Nat) (l0 l1 : List Int) (r : Bool) (hr : decide (l0 = l1) = r) (w : World) (h0 : Kd.C (Kd.int .u8) w A0 l0.length l0) (h0c : l0.length ≤ c0) (h1 : Kd.C (Kd.int .u8) w A1 l1.length l1) (h1c : l1.length ≤ c1) (hl : l0.length ≤ 1000000) : Calls Try.prog 15 #[.slice A0 l0.length c0, .slice A1 l1.length c1] w fun e w' => e = .returned (.bool r) ∧ Kp w w' (fun _ => False) := by
 have K_0 := Kp.refl w (fun _ => False)
 refine enter (args := [Value.slice A0 l0.length c0, Value.slice A1 l1.length c1]) (n := 26) Try.func15 body15 rfl rfl rfl ?_
 intro a hE
 refine c_reg R15_0_l ?_
 refine q0 p15_0_0 hE (st_assign rfl) ?_; clear hE a; intro a hE
 refine p_nil (x_norm (wp_seq ?_))
 rcases Decidable.em (l0.length = l1.length) with hLN | hLN
 ·
  refine c_reg R15_1_l ?_
  refine q0 p15_1_0 hE (st_move rfl) ?_; clear hE a; intro a hE
  refine q0 p15_1_1 hE (st_len Try.underlying22 rfl) ?_; clear hE a; intro a hE
  refine q0 p15_1_2 hE (st_move rfl) ?_; clear hE a; intro a hE
  refine q0 p15_1_3 hE (st_len Try.underlying22 rfl) ?_; clear hE a; intro a hE
  refine q0 p15_1_4 hE (st_neq (b := false) rfl rfl (by simp [hLN])) ?_; clear hE a; intro a hE
  refine p_nil (x_norm ?_)
  refine c_cond (t := false) hE rfl ?_
  refine wp_skip (x_norm (wp_seq (c_reg R15_3_l ?_)))
  refine q0 p15_3_0 hE (st_assign rfl) ?_; clear hE a; intro a hE
  refine p_nil (x_norm (wp_block ?_))
  refine c_loop (α := Nat) (fun k a W => En 26 a [(0, Value.slice A0 l0.length c0), (1, Value.slice A1 l1.length c1), (10, Value.bool false), (5, Value.int .i64 (k : Int))] ∧ k ≤ l0.length ∧ (∀ j, j < k → rd l0 (j : Int) = rd l1 (j : Int)) ∧ Kp w W (fun _ => False)) (fun k => l0.length - k) (0) ?_ ?_
  ·
   exact ⟨En.sub hE ⟨rfl, rfl, rfl, rfl, trivial⟩, Nat.zero_le _, fun j hj => absurd hj (Nat.not_lt_zero j), K_0⟩
  ·
   clear hE a
   rintro k a w1 ⟨hE, hk9, hall, K_0⟩
   refine wp_seq ?_
   rcases Decidable.em ((k : Int) < (l0.length : Int)) with hK1 | hK1
   ·
    refine c_reg R15_4_l ?_
    refine q0 p15_4_0 hE (st_move rfl) ?_; clear hE a; intro a hE
    refine q0 p15_4_1 hE (st_move rfl) ?_; clear hE a; intro a hE
    refine q0 p15_4_2 hE (st_len Try.underlying22 rfl) ?_; clear hE a; intro a hE
    refine q0 p15_4_3 hE (st_lss (b := true) rfl rfl (decide_eq_true hK1)) ?_; clear hE a; intro a hE
    refine p_nil (x_norm ?_)
    refine c_cond (t := true) hE rfl ?_
    refine wp_skip (x_norm (wp_seq (wp_block ?_)))
    rcases Decidable.em (rd l0 (k : Int) = rd l1 (k : Int)) with hEQ | hEQ
    ·
     refine c_drawS (S := fun W => Kd.C (Kd.int .u8) W A0 l0.length l0 ∧ Kd.C (Kd.int .u8) W A1 l1.length l1 ∧ True) rfl rfl (listed := #[false, false, false, false, false, false, false, false, false]) rfl ?_
     intro w2 hh hk
     replace K_0 := K_0.then_ hk (fun _ h => h.elim)
     clear hh hk
     refine d_take (v := Value.slice A0 l0.length c0) p15_6_0 ns15_6 (by kernel_rfl) (by kernel_rfl) (fun _ _ _ h => h) hE wn_none rfl ⟨(C_to h0 K_0), (C_to h1 K_0), trivial⟩ (fun W hS => (st_move rfl)) rfl ?_; clear hE a; intro a hE
     refine d_take (v := Value.int .i64 (k : Int)) p15_6_1 ns15_6 (by kernel_rfl) (by kernel_rfl) (fun _ _ _ h => h) hE wn_none rfl ⟨(C_to h0 K_0), (C_to h1 K_0), trivial⟩ (fun W hS => (st_move rfl)) rfl ?_; clear hE a; intro a hE
     refine d_take (v := Value.pointer (some (ea A0 k))) p15_6_2 ns15_6 (by kernel_rfl) (by kernel_rfl) (fun _ _ _ h => h) hE wn_none rfl ⟨(C_to h0 K_0), (C_to h1 K_0), trivial⟩ (fun W hS => (st_indexAddrS (i := k) Try.underlying22 tS5 (C_at (C_to h0 K_0) (show k < _ by omega)).1 rfl rfl (by omega))) rfl ?_; clear hE a; intro a hE
     refine d_take (v := Value.int .u8 (rd l0 (k : Int))) p15_6_3 ns15_6 (by kernel_rfl) (by kernel_rfl) (fun _ _ _ h => h) hE wn_none rfl ⟨(C_to h0 K_0), (C_to h1 K_0), trivial⟩ (fun W hS => (st_loadC (i := k) tA5 (hS.1) (by omega) rfl)) rfl ?_; clear hE a; intro a hE
     refine d_take (v := Value.slice A1 l1.length c1) p15_6_4 ns15_6 (by kernel_rfl) (by kernel_rfl) (fun _ _ _ h => h) hE wn_none rfl ⟨(C_to h0 K_0), (C_to h1 K_0), trivial⟩ (fun W hS => (st_move rfl)) rfl ?_; clear hE a; intro a hE
     refine d_take (v := Value.int .i64 (k : Int)) p15_6_5 ns15_6 (by kernel_rfl) (by kernel_rfl) (fun _ _ _ h => h) hE wn_none rfl ⟨(C_to h0 K_0), (C_to h1 K_0), trivial⟩ (fun W hS => (st_move rfl)) rfl ?_; clear hE a; intro a hE
     refine d_take (v := Value.pointer (some (ea A1 k))) p15_6_6 ns15_6 (by kernel_rfl) (by kernel_rfl) (fun _ _ _ h => h) hE wn_none rfl ⟨(C_to h0 K_0), (C_to h1 K_0), trivial⟩ (fun W hS => (st_indexAddrS (i := k) Try.underlying22 tS5 (C_at (C_to h1 K_0) (show k < _ by omega)).1 rfl rfl (by omega))) rfl ?_; clear hE a; intro a hE
     refine d_take (v := Value.int .u8 (rd l1 (k : Int))) p15_6_7 ns15_6 (by kernel_rfl) (by kernel_rfl) (fun _ _ _ h => h) hE wn_none rfl ⟨(C_to h0 K_0), (C_to h1 K_0), trivial⟩ (fun W hS => (st_loadC (i := k) tA5 (hS.2.1) (by omega) rfl)) rfl ?_; clear hE a; intro a hE
     refine d_take (v := Value.bool false) p15_6_8 ns15_6 (by kernel_rfl) (by kernel_rfl) (fun _ _ _ h => h) hE wn_none rfl ⟨(C_to h0 K_0), (C_to h1 K_0), trivial⟩ (fun W hS => (st_neq (b := false) rfl rfl (by simp [hEQ]))) rfl ?_; clear hE a; intro a hE
     refine d_end (by kernel_rfl) ?_
     refine x_norm ?_
     refine c_cond (t := false) hE rfl ?_
     refine wp_skip (x_normB (x_norm (c_regL R15_5_l ?_)))
     refine q0 p15_5_0 hE (st_move rfl) ?_; clear hE a; intro a hE
     refine q0 p15_5_1 hE (st_add (z := (k : Int) + 1) rfl rfl (wr_i64 _ (by omega) (by omega))) ?_; clear hE a; intro a hE
     refine q0 p15_5_2 hE (st_assign rfl) ?_; clear hE a; intro a hE
     refine p_nil (x_norm ?_)
     exact ⟨k + 1, by omega, En.sub hE ⟨rfl, rfl, rfl, rfl, trivial⟩, by omega, fun j hj => by rcases Nat.lt_succ_iff_lt_or_eq.1 hj with h | h; exact hall j h; rw [h]; exact hEQ, K_0⟩
    ·
     refine c_drawS (S := fun W => Kd.C (Kd.int .u8) W A0 l0.length l0 ∧ Kd.C (Kd.int .u8) W A1 l1.length l1 ∧ True) rfl rfl (listed := #[false, false, false, false, false, false, false, false, false]) rfl ?_
     intro w3 hh hk
     replace K_0 := K_0.then_ hk (fun _ h => h.elim)
     clear hh hk
     refine d_take (v := Value.slice A0 l0.length c0) p15_6_0 ns15_6 (by kernel_rfl) (by kernel_rfl) (fun _ _ _ h => h) hE wn_none rfl ⟨(C_to h0 K_0), (C_to h1 K_0), trivial⟩ (fun W hS => (st_move rfl)) rfl ?_; clear hE a; intro a hE
     refine d_take (v := Value.int .i64 (k : Int)) p15_6_1 ns15_6 (by kernel_rfl) (by kernel_rfl) (fun _ _ _ h => h) hE wn_none rfl ⟨(C_to h0 K_0), (C_to h1 K_0), trivial⟩ (fun W hS => (st_move rfl)) rfl ?_; clear hE a; intro a hE
     refine d_take (v := Value.pointer (some (ea A0 k))) p15_6_2 ns15_6 (by kernel_rfl) (by kernel_rfl) (fun _ _ _ h => h) hE wn_none rfl ⟨(C_to h0 K_0), (C_to h1 K_0), trivial⟩ (fun W hS => (st_indexAddrS (i := k) Try.underlying22 tS5 (C_at (C_to h0 K_0) (show k < _ by omega)).1 rfl rfl (by omega))) rfl ?_; clear hE a; intro a hE
     refine d_take (v := Value.int .u8 (rd l0 (k : Int))) p15_6_3 ns15_6 (by kernel_rfl) (by kernel_rfl) (fun _ _ _ h => h) hE wn_none rfl ⟨(C_to h0 K_0), (C_to h1 K_0), trivial⟩ (fun W hS => (st_loadC (i := k) tA5 (hS.1) (by omega) rfl)) rfl ?_; clear hE a; intro a hE
     refine d_take (v := Value.slice A1 l1.length c1) p15_6_4 ns15_6 (by kernel_rfl) (by kernel_rfl) (fun _ _ _ h => h) hE wn_none rfl ⟨(C_to h0 K_0), (C_to h1 K_0), trivial⟩ (fun W hS => (st_move rfl)) rfl ?_; clear hE a; intro a hE
     refine d_take (v := Value.int .i64 (k : Int)) p15_6_5 ns15_6 (by kernel_rfl) (by kernel_rfl) (fun _ _ _ h => h) hE wn_none rfl ⟨(C_to h0 K_0), (C_to h1 K_0), trivial⟩ (fun W hS => (st_move rfl)) rfl ?_; clear hE a; intro a hE
     refine d_take (v := Value.pointer (some (ea A1 k))) p15_6_6 ns15_6 (by kernel_rfl) (by kernel_rfl) (fun _ _ _ h => h) hE wn_none rfl ⟨(C_to h0 K_0), (C_to h1 K_0), trivial⟩ (fun W hS => (st_indexAddrS (i := k) Try.underlying22 tS5 (C_at (C_to h1 K_0) (show k < _ by omega)).1 rfl rfl (by omega))) rfl ?_; clear hE a; intro a hE
     refine d_take (v := Value.int .u8 (rd l1 (k : Int))) p15_6_7 ns15_6 (by kernel_rfl) (by kernel_rfl) (fun _ _ _ h => h) hE wn_none rfl ⟨(C_to h0 K_0), (C_to h1 K_0), trivial⟩ (fun W hS => (st_loadC (i := k) tA5 (hS.2.1) (by omega) rfl)) rfl ?_; clear hE a; intro a hE
     refine d_take (v := Value.bool true) p15_6_8 ns15_6 (by kernel_rfl) (by kernel_rfl) (fun _ _ _ h => h) hE wn_none rfl ⟨(C_to h0 K_0), (C_to h1 K_0), trivial⟩ (fun W hS => (st_neq (b := true) rfl rfl (by simp [hEQ]))) rfl ?_; clear hE a; intro a hE
     refine d_end (by kernel_rfl) ?_
     refine x_norm ?_
     refine c_cond (t := true) hE rfl ?_
     refine c_reg R15_7_l ?_
     refine q0 p15_7_0 hE (st_assign rfl) ?_; clear hE a; intro a hE
     refine p_nil (x_norm (wp_ret (x_retB (x_ret (x_ret (x_retB (x_ret ?_)))))))
     refine ret_one (v := Value.bool false) rfl hE (.tmp rfl .nil) ?_
     exact ⟨by rw [← hr, decide_eq_false (fun h => hEQ (by rw [h]))], K_0⟩
   ·
    refine c_reg R15_4_l ?_
    refine q0 p15_4_0 hE (st_move rfl) ?_; clear hE a; intro a hE
    refine q0 p15_4_1 hE (st_move rfl) ?_; clear hE a; intro a hE
    refine q0 p15_4_2 hE (st_len Try.underlying22 rfl) ?_; clear hE a; intro a hE
    refine q0 p15_4_3 hE (st_lss (b := false) rfl rfl (decide_eq_false hK1)) ?_; clear hE a; intro a hE
    refine p_nil (x_norm ?_)
    refine c_cond (t := false) hE rfl ?_
    refine wp_exit (x_exit (x_exit (x_in (x_norm (c_reg R15_8_l ?_)))))
    refine q0 p15_8_0 hE (st_assign rfl) ?_; clear hE a; intro a hE
    refine p_nil (x_norm (wp_ret ?_))
    refine ret_one (v := Value.bool true) rfl hE (.tmp rfl .nil) ?_
    exact ⟨by rw [← hr, decide_eq_true (rd_ext hLN (fun j hj => hall j (by omega)))], K_0⟩
 ·
  refine c_reg R15_1_l ?_
  refine q0 p15_1_0 hE (st_move rfl) ?_; clear hE a; intro a hE
  refine q0 p15_1_1 hE (st_len Try.underlying22 rfl) ?_; clear hE a; intro a hE
  refine q0 p15_1_2 hE (st_move rfl) ?_; clear hE a; intro a hE
  refine q0 p15_1_3 hE (st_len Try.underlying22 rfl) ?_; clear hE a; intro a hE
  refine q0 p15_1_4 hE (st_neq (b := true) rfl rfl (by simp; exact fun h => hLN (by omega))) ?_; clear hE a; intro a hE
  refine p_nil (x_norm ?_)
  refine c_cond (t := true) hE rfl ?_
  refine c_reg R15_2_l ?_
  refine q0 p15_2_0 hE (st_assign rfl) ?_; clear hE a; intro a hE
  refine p_nil (x_norm (wp_ret (x_ret ?_)))
  refine ret_one (v := Value.bool false) rfl hE (.tmp rfl .nil) ?_
  exact ⟨by rw [← hr, decide_eq_false (fun h => hLN (by rw [h]))], K_0⟩
end Go.Proofs.Ytgpclehnomkbmaa.Pk
