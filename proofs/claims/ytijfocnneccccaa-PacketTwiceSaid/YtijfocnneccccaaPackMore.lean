/- Package pack: numbers that fit, numbers put; texts compared. -/
import Derived.Test.YtijfocnneccccaaChecked
import Derived.Test.YtijfocnneccccaaRs
import Derived.Lib.SliceRun
set_option maxRecDepth 100000
set_option linter.unusedVariables false
set_option linter.unusedSimpArgs false
namespace Go.Proofs.Ytijfocnneccccaa.Pk
open Go.RowKit Go.Proofs.YtijfocnneccccaaW.PrintWords Go.Proofs.Ytijfocnneccccaa.Ds
def spanF (n : Int) : Int := if n = 1 then 256 else if n = 2 then 65536 else if n = 4 then 4294967296 else 0
def fitsF (k : Int) (l : List Int) : Bool := decide (0 < spanF k) && l.all (fun n => decide (0 ≤ n ∧ n < spanF k))
def digF (k n : Int) : List Int := if k = 4 then [n / 16777216 % 256, n / 65536 % 256, n / 256 % 256, n % 256] else if k = 2 then [n / 256 % 256, n % 256] else [n % 256]
def putF (k : Int) (l : List Int) : List Int := l.flatMap (digF k)
theorem span_bd (k : Int) : 0 ≤ spanF k ∧ spanF k ≤ 4294967296 := by
 unfold spanF
 split
 · omega
 ·
  split
  · omega
  · split <;> omega
theorem put_take (k : Int) (l : List Int) (j : Nat) (h : j < l.length) : putF k (l.take (j + 1)) = putF k (l.take j) ++ digF k (rd l j) := by
 unfold putF
 rw [List.take_succ_eq_append_getElem h, List.flatMap_append]
 simp [rd, h]
theorem put_len (k : Int) (l : List Int) (j : Nat) : (putF k (l.take j)).length ≤ (putF k l).length := by
 have h : putF k l = putF k (l.take j) ++ putF k (l.drop j) := by
  unfold putF
  rw [← List.flatMap_append, List.take_append_drop]
 rw [h, List.length_append]
 omega
theorem rd_mem {l : List Int} {v : Int} (h : v ∈ l) : ∃ j, j < l.length ∧ rd l (j : Int) = v := by
 obtain ⟨j, hj, e⟩ := List.getElem_of_mem h
 exact ⟨j, hj, by simp [rd, rdOf, List.getD_eq_getElem?_getD, hj, e]⟩
theorem mem_rd {l : List Int} {j : Nat} (h : j < l.length) : rd l (j : Int) ∈ l := by
 simp [rd, rdOf, List.getD_eq_getElem?_getD, h]
theorem fits_all {k : Int} {l : List Int} (h0 : 0 < spanF k) (h : ∀ j, j < l.length → 0 ≤ rd l (j : Int) ∧ rd l (j : Int) < spanF k) : fitsF k l = true := by
 simp only [fitsF, Bool.and_eq_true, List.all_eq_true, decide_eq_true_eq]
 exact ⟨h0, fun x hx => by obtain ⟨j, hj, rfl⟩ := rd_mem hx; exact h j hj⟩
theorem fits_at {k : Int} {l : List Int} (h : fitsF k l = true) : 0 < spanF k ∧ ∀ j, j < l.length → 0 ≤ rd l (j : Int) ∧ rd l (j : Int) < spanF k := by
 simp only [fitsF, Bool.and_eq_true, List.all_eq_true, decide_eq_true_eq] at h
 exact ⟨h.1, fun j hj => h.2 _ (mem_rd hj)⟩
theorem R94_0_l : List.range (regOf Try.f94 0).size = [0] := by kernel_rfl
theorem R94_1_l : List.range (regOf Try.f94 1).size = [0] := by kernel_rfl
theorem R94_2_l : List.range (regOf Try.f94 2).size = [0, 1] := by kernel_rfl
theorem R94_3_l : List.range (regOf Try.f94 3).size = [0, 1] := by kernel_rfl
theorem R94_4_l : List.range (regOf Try.f94 4).size = [0, 1] := by kernel_rfl
theorem R94_5_l : List.range (regOf Try.f94 5).size = [0, 1, 2, 3] := by kernel_rfl
theorem R94_6_l : List.range (regOf Try.f94 6).size = [0] := by kernel_rfl
theorem body94 : Try.f94.body = some (.seq (.region 0 (regOf Try.f94 0) false) (.seq (.seq (.region 1 (regOf Try.f94 1) false) (.block 0 (.seq (.seq (.region 2 (regOf Try.f94 2) false) (.cond (Operand.tmp 4) (.skip) (.seq (.region 3 (regOf Try.f94 3) false) (.cond (Operand.tmp 4) (.skip) (.region 4 (regOf Try.f94 4) false))))) (.cond (Operand.tmp 4) (.seq (.region 5 (regOf Try.f94 5) false) (.ret)) (.skip))))) (.seq (.region 6 (regOf Try.f94 6) false) (.ret)))) := by kernel_rfl
theorem p94_0_0 : pj (regOf Try.f94 0) 0 = some (some 2, .assign (.const (.int .i64 0)), 3, none) := by kernel_rfl
theorem p94_1_0 : pj (regOf Try.f94 1) 0 = some (some 3, .move (.tmp 0), 3, none) := by kernel_rfl
theorem P94_2 : (List.range (regOf Try.f94 2).size).map (pj (regOf Try.f94 2)) = [zz 5 (.binOp .eql 3 (.tmp 3) (.const (.int .i64 1)) 3) 4, zz 4 (.assign (.tmp 5)) 4] := by kernel_rfl
theorem P94_5 : (List.range (regOf Try.f94 5).size).map (pj (regOf Try.f94 5)) = [zz 8 (.move (.tmp 0)) 3, zz 9 (.binOp .mul 3 (.const (.int .i64 8)) (.tmp 8) 3) 3, zz 10 (.binOp .shl 3 (.const (.int .i64 1)) (.tmp 9) 3) 3, zz 2 (.assign (.tmp 10)) 3] := by kernel_rfl
set_option maxHeartbeats 4000000 in
theorem span_1 (w : World) : Calls Try.prog 94 #[.int .i64 1] w fun e w' => e = .returned (.int .i64 256) ∧ Kp w w' (fun _ => False) := by
 have K_0 := Kp.refl w (fun _ => False)
 refine enter (args := [Value.int .i64 1]) (n := 11) Try.func94 body94 rfl rfl rfl ?_
 intro a hE
 refine c_reg R94_0_l ?_
 refine q0 p94_0_0 hE (st_assign rfl) ?_; clear hE a; intro a hE
 refine p_nil (x_norm (wp_seq (c_reg R94_1_l ?_)))
 refine q0 p94_1_0 hE (st_move rfl) ?_; clear hE a; intro a hE
 refine p_nil (x_norm (wp_block (wp_seq (c_reg R94_2_l ?_))))
 refine qn hE (rc (pl P94_2 0) (st_eql (b := true) rfl rfl (by decide)) (rc (pl P94_2 1) (st_assign rfl) rn)) ?_; clear hE a; intro a hE
 refine p_nil (x_norm ?_)
 refine c_cond (t := true) hE rfl ?_
 refine wp_skip (x_norm ?_)
 refine c_cond (t := true) hE rfl ?_
 refine c_reg R94_5_l ?_
 refine qn hE (rc (pl P94_5 0) (st_move rfl) (rc (pl P94_5 1) (st_mul (z := 8) rfl rfl (by decide)) (rc (pl P94_5 2) (st_shl (z := 256) rfl rfl (by decide) (by decide) (by decide)) (rc (pl P94_5 3) (st_assign rfl) rn)))) ?_; clear hE a; intro a hE
 refine p_nil (x_norm (wp_ret (x_retB (x_ret ?_))))
 refine ret_one (v := Value.int .i64 256) rfl hE (.tmp rfl .nil) ?_
 exact ⟨rfl, K_0⟩
theorem P94_3 : (List.range (regOf Try.f94 3).size).map (pj (regOf Try.f94 3)) = [zz 6 (.binOp .eql 3 (.tmp 3) (.const (.int .i64 2)) 3) 4, zz 4 (.assign (.tmp 6)) 4] := by kernel_rfl
set_option maxHeartbeats 4000000 in
theorem span_2 (w : World) : Calls Try.prog 94 #[.int .i64 2] w fun e w' => e = .returned (.int .i64 65536) ∧ Kp w w' (fun _ => False) := by
 have K_0 := Kp.refl w (fun _ => False)
 refine enter (args := [Value.int .i64 2]) (n := 11) Try.func94 body94 rfl rfl rfl ?_
 intro a hE
 refine c_reg R94_0_l ?_
 refine q0 p94_0_0 hE (st_assign rfl) ?_; clear hE a; intro a hE
 refine p_nil (x_norm (wp_seq (c_reg R94_1_l ?_)))
 refine q0 p94_1_0 hE (st_move rfl) ?_; clear hE a; intro a hE
 refine p_nil (x_norm (wp_block (wp_seq (c_reg R94_2_l ?_))))
 refine qn hE (rc (pl P94_2 0) (st_eql (b := false) rfl rfl (by decide)) (rc (pl P94_2 1) (st_assign rfl) rn)) ?_; clear hE a; intro a hE
 refine p_nil (x_norm ?_)
 refine c_cond (t := false) hE rfl ?_
 refine c_reg R94_3_l ?_
 refine qn hE (rc (pl P94_3 0) (st_eql (b := true) rfl rfl (by decide)) (rc (pl P94_3 1) (st_assign rfl) rn)) ?_; clear hE a; intro a hE
 refine p_nil (x_norm ?_)
 refine c_cond (t := true) hE rfl ?_
 refine wp_skip (x_norm ?_)
 refine c_cond (t := true) hE rfl ?_
 refine c_reg R94_5_l ?_
 refine qn hE (rc (pl P94_5 0) (st_move rfl) (rc (pl P94_5 1) (st_mul (z := 16) rfl rfl (by decide)) (rc (pl P94_5 2) (st_shl (z := 65536) rfl rfl (by decide) (by decide) (by decide)) (rc (pl P94_5 3) (st_assign rfl) rn)))) ?_; clear hE a; intro a hE
 refine p_nil (x_norm (wp_ret (x_retB (x_ret ?_))))
 refine ret_one (v := Value.int .i64 65536) rfl hE (.tmp rfl .nil) ?_
 exact ⟨rfl, K_0⟩
theorem P94_4 : (List.range (regOf Try.f94 4).size).map (pj (regOf Try.f94 4)) = [zz 7 (.binOp .eql 3 (.tmp 3) (.const (.int .i64 4)) 3) 4, zz 4 (.assign (.tmp 7)) 4] := by kernel_rfl
set_option maxHeartbeats 4000000 in
theorem span_4 (w : World) : Calls Try.prog 94 #[.int .i64 4] w fun e w' => e = .returned (.int .i64 4294967296) ∧ Kp w w' (fun _ => False) := by
 have K_0 := Kp.refl w (fun _ => False)
 refine enter (args := [Value.int .i64 4]) (n := 11) Try.func94 body94 rfl rfl rfl ?_
 intro a hE
 refine c_reg R94_0_l ?_
 refine q0 p94_0_0 hE (st_assign rfl) ?_; clear hE a; intro a hE
 refine p_nil (x_norm (wp_seq (c_reg R94_1_l ?_)))
 refine q0 p94_1_0 hE (st_move rfl) ?_; clear hE a; intro a hE
 refine p_nil (x_norm (wp_block (wp_seq (c_reg R94_2_l ?_))))
 refine qn hE (rc (pl P94_2 0) (st_eql (b := false) rfl rfl (by decide)) (rc (pl P94_2 1) (st_assign rfl) rn)) ?_; clear hE a; intro a hE
 refine p_nil (x_norm ?_)
 refine c_cond (t := false) hE rfl ?_
 refine c_reg R94_3_l ?_
 refine qn hE (rc (pl P94_3 0) (st_eql (b := false) rfl rfl (by decide)) (rc (pl P94_3 1) (st_assign rfl) rn)) ?_; clear hE a; intro a hE
 refine p_nil (x_norm ?_)
 refine c_cond (t := false) hE rfl ?_
 refine c_regL R94_4_l ?_
 refine qn hE (rc (pl P94_4 0) (st_eql (b := true) rfl rfl (by decide)) (rc (pl P94_4 1) (st_assign rfl) rn)) ?_; clear hE a; intro a hE
 refine p_nil (x_norm ?_)
 refine c_cond (t := true) hE rfl ?_
 refine c_reg R94_5_l ?_
 refine qn hE (rc (pl P94_5 0) (st_move rfl) (rc (pl P94_5 1) (st_mul (z := 32) rfl rfl (by decide)) (rc (pl P94_5 2) (st_shl (z := 4294967296) rfl rfl (by decide) (by decide) (by decide)) (rc (pl P94_5 3) (st_assign rfl) rn)))) ?_; clear hE a; intro a hE
 refine p_nil (x_norm (wp_ret (x_retB (x_ret ?_))))
 refine ret_one (v := Value.int .i64 4294967296) rfl hE (.tmp rfl .nil) ?_
 exact ⟨rfl, K_0⟩
theorem p94_6_0 : pj (regOf Try.f94 6) 0 = some (some 2, .assign (.const (.int .i64 0)), 3, none) := by kernel_rfl
set_option maxHeartbeats 4000000 in
theorem span_no (n : Int) (h : n ≠ 1 ∧ n ≠ 2 ∧ n ≠ 4) (w : World) : Calls Try.prog 94 #[.int .i64 n] w fun e w' => e = .returned (.int .i64 0) ∧ Kp w w' (fun _ => False) := by
 have K_0 := Kp.refl w (fun _ => False)
 refine enter (args := [Value.int .i64 n]) (n := 11) Try.func94 body94 rfl rfl rfl ?_
 intro a hE
 refine c_reg R94_0_l ?_
 refine q0 p94_0_0 hE (st_assign rfl) ?_; clear hE a; intro a hE
 refine p_nil (x_norm (wp_seq (c_reg R94_1_l ?_)))
 refine q0 p94_1_0 hE (st_move rfl) ?_; clear hE a; intro a hE
 refine p_nil (x_norm (wp_block (wp_seq (c_reg R94_2_l ?_))))
 refine qn hE (rc (pl P94_2 0) (st_eql (b := false) rfl rfl (decide_eq_false (by omega))) (rc (pl P94_2 1) (st_assign rfl) rn)) ?_; clear hE a; intro a hE
 refine p_nil (x_norm ?_)
 refine c_cond (t := false) hE rfl ?_
 refine c_reg R94_3_l ?_
 refine qn hE (rc (pl P94_3 0) (st_eql (b := false) rfl rfl (decide_eq_false (by omega))) (rc (pl P94_3 1) (st_assign rfl) rn)) ?_; clear hE a; intro a hE
 refine p_nil (x_norm ?_)
 refine c_cond (t := false) hE rfl ?_
 refine c_regL R94_4_l ?_
 refine qn hE (rc (pl P94_4 0) (st_eql (b := false) rfl rfl (decide_eq_false (by omega))) (rc (pl P94_4 1) (st_assign rfl) rn)) ?_; clear hE a; intro a hE
 refine p_nil (x_norm ?_)
 refine c_cond (t := false) hE rfl ?_
 refine wp_skip (x_normB (x_norm (c_reg R94_6_l ?_)))
 refine q0 p94_6_0 hE (st_assign rfl) ?_; clear hE a; intro a hE
 refine p_nil (x_norm (wp_ret ?_))
 refine ret_one (v := Value.int .i64 0) rfl hE (.tmp rfl .nil) ?_
 exact ⟨rfl, K_0⟩
theorem span_any (n : Int) (w : World) : Calls Try.prog 94 #[.int .i64 n] w fun e w' => e = .returned (.int .i64 (spanF n)) ∧ Kp w w' (fun _ => False) := by
 by_cases h1 : n = 1
 · subst h1; exact span_1 w
 by_cases h2 : n = 2
 · subst h2; exact span_2 w
 by_cases h4 : n = 4
 · subst h4; exact span_4 w
 have e : spanF n = 0 := by unfold spanF; rw [if_neg h1, if_neg h2, if_neg h4]
 rw [e]
 exact span_no n ⟨h1, h2, h4⟩ w
theorem R47_0_l : List.range (regOf Try.f47 0).size = [0] := by kernel_rfl
theorem R47_1_l : List.range (regOf Try.f47 1).size = [0, 1, 2] := by kernel_rfl
theorem R47_2_l : List.range (regOf Try.f47 2).size = [0, 1, 2] := by kernel_rfl
theorem R47_3_l : List.range (regOf Try.f47 3).size = [0] := by kernel_rfl
theorem R47_4_l : List.range (regOf Try.f47 4).size = [0, 1, 2] := by kernel_rfl
theorem R47_5_l : List.range (regOf Try.f47 5).size = [0, 1, 2, 3, 4, 5, 6] := by kernel_rfl
theorem R47_6_l : List.range (regOf Try.f47 6).size = [0] := by kernel_rfl
theorem R47_7_l : List.range (regOf Try.f47 7).size = [0, 1] := by kernel_rfl
theorem R47_8_l : List.range (regOf Try.f47 8).size = [0, 1, 2] := by kernel_rfl
theorem body47 : Try.f47.body = some (.seq (.region 0 (regOf Try.f47 0) false) (.seq (.region 1 (regOf Try.f47 1) false) (.seq (.seq (.region 2 (regOf Try.f47 2) false) (.block 0 (.loop (.seq (.region 3 (regOf Try.f47 3) false) (.seq (.cond (Operand.tmp 13) (.skip) (.exit 0)) (.seq (.block 1 (.seq (.region 4 (regOf Try.f47 4) false) (.seq (.region 5 (regOf Try.f47 5) false) (.cond (Operand.tmp 22) (.seq (.region 6 (regOf Try.f47 6) false) (.ret)) (.skip))))) (.region 7 (regOf Try.f47 7) false))))))) (.seq (.region 8 (regOf Try.f47 8) false) (.ret))))) := by kernel_rfl
theorem p47_0_0 : pj (regOf Try.f47 0) 0 = some (some 4, .assign (.const (.bool false)), 4, none) := by kernel_rfl
theorem P47_1 : (List.range (regOf Try.f47 1).size).map (pj (regOf Try.f47 1)) = [zz 8 (.move (.tmp 0)) 3, zz 9 (.call { callee := .value (.func 94), args := #[.tmp 8], argTypes := #[3] }) 3, zz 5 (.assign (.tmp 9)) 3] := by kernel_rfl
theorem cl94 : callable Try.f94 = true := by kernel_rfl
theorem P47_2 : (List.range (regOf Try.f47 2).size).map (pj (regOf Try.f47 2)) = [zz 10 (.move (.tmp 1)) 22, zz 11 (.call { callee := .builtin .len, args := #[.tmp 10], argTypes := #[22] }) 3, zz 12 (.move (.const (.int .i64 0))) 3] := by kernel_rfl
theorem p47_3_0 : pj (regOf Try.f47 3) 0 = some (some 13, .binOp .lss 3 (.tmp 12) (.tmp 11) 3, 0, none) := by kernel_rfl
theorem P47_4 : (List.range (regOf Try.f47 4).size).map (pj (regOf Try.f47 4)) = [zz 14 (.indexAddr 22 (.tmp 10) (.tmp 12)) 0, zz 15 (.load 3 (.tmp 14)) 3, zz 7 (.assign (.tmp 15)) 3] := by kernel_rfl
theorem tS3 : (Try.prog.info? 3).map (·.size) = some 1 := by kernel_rfl
theorem tA3 : (Try.prog.underlying 3).map aggD = some false := by kernel_rfl
theorem P47_5 : (List.range (regOf Try.f47 5).size).map (pj (regOf Try.f47 5)) = [zz 16 (.move (.tmp 7)) 3, zz 17 (.binOp .lss 3 (.tmp 16) (.const (.int .i64 0)) 3) 4, zz 18 (.move (.tmp 17)) 4, some (some 19, .move (.tmp 7), 3, some (2, false)), some (some 20, .move (.tmp 5), 3, some (2, false)), some (some 21, .binOp .geq 3 (.tmp 19) (.tmp 20) 3, 4, some (2, false)), zz 22 (.pick (.tmp 18) (.const (.bool true)) (.tmp 21)) 4] := by kernel_rfl
theorem g47_5_2 : dstOf (regOf Try.f47 5) 2 = some 18 := by kernel_rfl
theorem P47_7 : (List.range (regOf Try.f47 7).size).map (pj (regOf Try.f47 7)) = [zz 23 (.binOp .add 3 (.tmp 12) (.const (.int .i64 1)) 3) 3, zz 12 (.move (.tmp 23)) 3] := by kernel_rfl
theorem p47_6_0 : pj (regOf Try.f47 6) 0 = some (some 4, .assign (.const (.bool false)), 4, none) := by kernel_rfl
theorem P47_8 : (List.range (regOf Try.f47 8).size).map (pj (regOf Try.f47 8)) = [zz 24 (.move (.tmp 5)) 3, zz 25 (.binOp .gtr 3 (.tmp 24) (.const (.int .i64 0)) 3) 4, zz 4 (.assign (.tmp 25)) 4] := by kernel_rfl
set_option maxHeartbeats 4000000 in
theorem fits_any (A : Option Addr) (c : Nat) (k : Int) (l : List Int) (r : Bool) (hr : fitsF k l = r) (w : World) (h : Kd.C (Kd.int .i64) w A l.length l) (hc : l.length ≤ c) : Calls Try.prog 47 #[.int .i64 k, .slice A l.length c] w fun e w' => e = .returned (.bool r) ∧ Kp w w' (fun _ => False) := by
 have K_0 := Kp.refl w (fun _ => False)
 have hq := span_bd k
 have hmx := h.2.1
 refine enter (args := [Value.int .i64 k, Value.slice A l.length c]) (n := 26) Try.func47 body47 rfl rfl rfl ?_
 intro a hE
 refine c_reg R47_0_l ?_
 refine q0 p47_0_0 hE (st_assign rfl) ?_; clear hE a; intro a hE
 refine p_nil (x_norm (c_reg R47_1_l ?_))
 refine q0 (pl P47_1 0) hE (st_move rfl) ?_; clear hE a; intro a hE
 refine p_cons (s_call (xs := [Operand.tmp 8]) (args := [Value.int .i64 k]) (pl P47_1 1) hE wn_none rfl rfl Try.func94 cl94 (span_any k _) ?_)
 rintro e w1 ⟨rfl, hk⟩
 replace K_0 := K_0.then_ hk (fun _ h => h.elim)
 refine ⟨_, rfl, ?_⟩; clear hE a; intro a hE
 refine q0 (pl P47_1 2) hE (st_assign rfl) ?_; clear hE a; intro a hE
 refine p_nil (x_norm (wp_seq (c_reg R47_2_l ?_)))
 refine qn hE (rc (pl P47_2 0) (st_move rfl) (rc (pl P47_2 1) (st_len Try.underlying22 rfl) (rc (pl P47_2 2) (st_move rfl) rn))) ?_; clear hE a; intro a hE
 refine p_nil (x_norm (wp_block ?_))
 refine c_loop (α := Nat) (fun j a W => En 26 a [(0, Value.int .i64 k), (1, Value.slice A l.length c), (5, Value.int .i64 (spanF k)), (10, Value.slice A l.length c), (11, Value.int .i64 (l.length : Int)), (12, Value.int .i64 (j : Int))] ∧ j ≤ l.length ∧ (∀ i, i < j → 0 ≤ rd l (i : Int) ∧ rd l (i : Int) < spanF k) ∧ Kp w W (fun _ => False)) (fun j => l.length - j) (0) ?_ ?_
 ·
  exact ⟨En.sub hE ⟨rfl, rfl, rfl, rfl, rfl, rfl, trivial⟩, Nat.zero_le _, fun i hi => absurd hi (Nat.not_lt_zero i), K_0⟩
 ·
  clear hE a
  rintro j a w2 ⟨hE, hj9, hall, K_0⟩
  rcases Decidable.em ((j : Int) < (l.length : Int)) with hK1 | hK1
  ·
   refine c_reg R47_3_l ?_
   refine q0 p47_3_0 hE (st_lss (b := true) rfl rfl (decide_eq_true hK1)) ?_; clear hE a; intro a hE
   refine p_nil (x_norm (wp_seq ?_))
   refine c_cond (t := true) hE rfl ?_
   refine wp_skip (x_norm (wp_seq (wp_block (c_reg R47_4_l ?_))))
   refine qn hE (rc (pl P47_4 0) (st_indexAddrC (i := j) Try.underlying22 tS3 (C_to h K_0) rfl rfl (by omega)) (rc (v := Value.int .i64 (rd l (j : Int))) (pl P47_4 1) (st_loadC (i := j) tA3 (C_to h K_0) (by omega) rfl) (rc (pl P47_4 2) (st_assign rfl) rn))) ?_; clear hE a; intro a hE
   refine p_nil (x_norm ?_)
   rcases Decidable.em (0 ≤ rd l (j : Int) ∧ rd l (j : Int) < spanF k) with hG | hG
   ·
    refine c_reg R47_5_l ?_
    refine qn hE (rc (pl P47_5 0) (st_move rfl) (rc (pl P47_5 1) (st_lss (b := false) rfl rfl (decide_eq_false (by omega))) (rc (pl P47_5 2) (st_move rfl) (rg (pl P47_5 3) (wn_some g47_5_2 rfl rfl) (st_move rfl) (rg (pl P47_5 4) (wn_some g47_5_2 rfl rfl) (st_move rfl) (rg (pl P47_5 5) (wn_some g47_5_2 rfl rfl) (st_geq (b := false) rfl rfl (decide_eq_false (by omega))) (rc (pl P47_5 6) (st_pick rfl rfl) rn))))))) ?_; clear hE a; intro a hE
    refine p_nil (x_norm ?_)
    refine c_cond (t := false) hE rfl ?_
    refine wp_skip (x_normB (x_norm (c_regL R47_7_l ?_)))
    refine qn hE (rc (pl P47_7 0) (st_add (z := (j : Int) + 1) rfl rfl (wr_i64 _ (by omega) (by omega))) (rc (pl P47_7 1) (st_move rfl) rn)) ?_; clear hE a; intro a hE
    refine p_nil (x_norm ?_)
    exact ⟨j + 1, by omega, En.sub hE ⟨rfl, rfl, rfl, rfl, rfl, rfl, trivial⟩, by omega, fun i hi => by rcases Nat.lt_succ_iff_lt_or_eq.1 hi with h | h; exact hall i h; rw [h]; exact hG, K_0⟩
   ·
    rcases Decidable.em (rd l (j : Int) < 0) with hLO | hLO
    ·
     refine c_reg R47_5_l ?_
     refine qn hE (rc (pl P47_5 0) (st_move rfl) (rc (pl P47_5 1) (st_lss (b := true) rfl rfl (decide_eq_true (by omega))) (rc (pl P47_5 2) (st_move rfl) (Ds.rk (pl P47_5 3) (wn_some g47_5_2 rfl rfl) (Ds.rk (pl P47_5 4) (wn_some g47_5_2 rfl rfl) (Ds.rk (pl P47_5 5) (wn_some g47_5_2 rfl rfl) (rc (pl P47_5 6) (st_pick rfl rfl) rn))))))) ?_; clear hE a; intro a hE
     refine p_nil (x_norm ?_)
     refine c_cond (t := true) hE rfl ?_
     refine c_reg R47_6_l ?_
     refine q0 p47_6_0 hE (st_assign rfl) ?_; clear hE a; intro a hE
     refine p_nil (x_norm (wp_ret (x_retB (x_ret (x_ret (x_retB (x_ret ?_)))))))
     refine ret_one (v := Value.bool false) rfl hE (.tmp rfl .nil) ?_
     exact ⟨by rw [← hr, Bool.eq_false_iff.2 (fun hf => hG ((fits_at hf).2 j (by omega)))], K_0⟩
    ·
     refine c_reg R47_5_l ?_
     refine qn hE (rc (pl P47_5 0) (st_move rfl) (rc (pl P47_5 1) (st_lss (b := false) rfl rfl (decide_eq_false (by omega))) (rc (pl P47_5 2) (st_move rfl) (rg (pl P47_5 3) (wn_some g47_5_2 rfl rfl) (st_move rfl) (rg (pl P47_5 4) (wn_some g47_5_2 rfl rfl) (st_move rfl) (rg (pl P47_5 5) (wn_some g47_5_2 rfl rfl) (st_geq (b := true) rfl rfl (decide_eq_true (by omega))) (rc (pl P47_5 6) (st_pick rfl rfl) rn))))))) ?_; clear hE a; intro a hE
     refine p_nil (x_norm ?_)
     refine c_cond (t := true) hE rfl ?_
     refine c_reg R47_6_l ?_
     refine q0 p47_6_0 hE (st_assign rfl) ?_; clear hE a; intro a hE
     refine p_nil (x_norm (wp_ret (x_retB (x_ret (x_ret (x_retB (x_ret ?_)))))))
     refine ret_one (v := Value.bool false) rfl hE (.tmp rfl .nil) ?_
     exact ⟨by rw [← hr, Bool.eq_false_iff.2 (fun hf => hG ((fits_at hf).2 j (by omega)))], K_0⟩
  ·
   refine c_reg R47_3_l ?_
   refine q0 p47_3_0 hE (st_lss (b := false) rfl rfl (decide_eq_false hK1)) ?_; clear hE a; intro a hE
   refine p_nil (x_norm (wp_seq ?_))
   refine c_cond (t := false) hE rfl ?_
   refine wp_exit (x_exit (x_exit (x_in (x_norm (c_reg R47_8_l ?_)))))
   refine qn hE (rc (pl P47_8 0) (st_move rfl) (rc (pl P47_8 1) (st_gtr (b := (decide (0 < spanF k))) rfl rfl rfl) (rc (pl P47_8 2) (st_assign rfl) rn))) ?_; clear hE a; intro a hE
   refine p_nil (x_norm (wp_ret ?_))
   refine ret_one (v := Value.bool (decide (0 < spanF k))) rfl hE (.tmp rfl .nil) ?_
   have e9 : fitsF k l = decide (0 < spanF k) := by
     by_cases h0 : 0 < spanF k
     · rw [decide_eq_true h0, fits_all h0 (fun i hi => hall i (by omega))]
     · rw [decide_eq_false h0, Bool.eq_false_iff.2 (fun hf => h0 (fits_at hf).1)]
   exact ⟨by rw [← hr, e9], K_0⟩
section
variable {P : Program} {T T1 T2 : TypeId} {m : List (Nat × Value)} {w : World} {X Y : Operand}
theorem st_eqlSn {A : Option Addr} {n c : Nat} {b : Bool} {e : TypeId} (hT : P.underlying T1 = some (.slice e)) (h1 : ev m X = some (.slice A n c)) (h2 : ev m Y = some (.slice none 0 0)) (hb : A.isNone = b) : Still P (.binOp .eql T1 X Y T2) T m w (.bool b) := fun n a hE o e1 e2 => by
 subst hb; unfold execOp; rw [e1]
 simp [hE.ev h1, hE.ev h2, eqGuard, Lib.run_eql_slice_nil w _ _ _ _ _ _ _ hT]
end
theorem R121_0_l : List.range (regOf Try.f121 0).size = [0] := by kernel_rfl
theorem R121_1_l : List.range (regOf Try.f121 1).size = [0, 1] := by kernel_rfl
theorem R121_2_l : List.range (regOf Try.f121 2).size = [0] := by kernel_rfl
theorem R121_3_l : List.range (regOf Try.f121 3).size = [0, 1, 2, 3] := by kernel_rfl
theorem body121 : Try.f121.body = some (.seq (.region 0 (regOf Try.f121 0) false) (.seq (.seq (.region 1 (regOf Try.f121 1) false) (.cond (Operand.tmp 4) (.seq (.region 2 (regOf Try.f121 2) false) (.ret)) (.skip))) (.seq (.region 3 (regOf Try.f121 3) false) (.ret)))) := by kernel_rfl
theorem p121_0_0 : pj (regOf Try.f121 0) 0 = some (some 2, .assign (.const (.slice none 0 0)), 33, none) := by kernel_rfl
theorem P121_1 : (List.range (regOf Try.f121 1).size).map (pj (regOf Try.f121 1)) = [zz 3 (.move (.tmp 0)) 33, zz 4 (.binOp .eql 33 (.tmp 3) (.const (.slice none 0 0)) 33) 4] := by kernel_rfl
theorem p121_2_0 : pj (regOf Try.f121 2) 0 = some (some 2, .assign (.const (.slice none 0 0)), 33, none) := by kernel_rfl
theorem P121_3 : (List.range (regOf Try.f121 3).size).map (pj (regOf Try.f121 3)) = [zz 5 (.buildSlice 33 0 #[]) 33, zz 6 (.move (.tmp 0)) 33, zz 7 (.call { callee := .builtin .append, args := #[.tmp 5, .tmp 6], argTypes := #[33, 33] }) 33, zz 2 (.assign (.tmp 7)) 33] := by kernel_rfl
theorem eD5 : elemD Try.prog 5 = some (1, 1, 1) := by kernel_rfl
set_option maxHeartbeats 4000000 in
theorem clone_b (A : Option Addr) (c : Nat) (l : List Int) (w : World) (h : Kd.C (Kd.int .u8) w A l.length l) (hmx : l.length ≤ 1000000) : Calls Try.prog 121 #[.slice A l.length c] w fun e w' => ∃ A' c', e = .returned (.slice A' l.length c') ∧ w'.ownsRow w.heap.size 5 1 (.slice A' l.length c') l.length (encs (Value.int .u8) l) ∧ Kp w w' (fun _ => False) := by
 have K_0 := Kp.refl w (fun _ => False)
 refine enter (args := [Value.slice A l.length c]) (n := 8) Try.func121 body121 rfl rfl rfl ?_
 intro a hE
 refine c_reg R121_0_l ?_
 refine q0 p121_0_0 hE (st_assign rfl) ?_; clear hE a; intro a hE
 refine p_nil (x_norm (wp_seq ?_))
 rcases Decidable.em (A.isNone = true) with hNIL | hNIL
 ·
  refine c_reg R121_1_l ?_
  refine qn hE (rc (pl P121_1 0) (st_move rfl) (rc (pl P121_1 1) (st_eqlSn (b := true) Try.underlying33 rfl rfl hNIL) rn)) ?_; clear hE a; intro a hE
  refine p_nil (x_norm ?_)
  refine c_cond (t := true) hE rfl ?_
  refine c_reg R121_2_l ?_
  refine q0 p121_2_0 hE (st_assign rfl) ?_; clear hE a; intro a hE
  refine p_nil (x_norm (wp_ret (x_ret ?_)))
  refine ret_one (v := Value.slice none 0 0) rfl hE (.tmp rfl .nil) ?_
  have h0 : l = [] := by
    rcases Nat.eq_zero_or_pos l.length with h2 | h2
    · exact List.eq_nil_of_length_eq_zero h2
    ·
     obtain ⟨ad, h3, _⟩ := h.2.2 h2
     rw [h3] at hNIL; cases hNIL
  subst h0
  exact ⟨none, 0, rfl, own_none _ _ _ _, K_0⟩
 ·
  refine c_reg R121_1_l ?_
  refine qn hE (rc (pl P121_1 0) (st_move rfl) (rc (pl P121_1 1) (st_eqlSn (b := false) Try.underlying33 rfl rfl (Bool.eq_false_iff.2 hNIL)) rn)) ?_; clear hE a; intro a hE
  refine p_nil (x_norm ?_)
  refine c_cond (t := false) hE rfl ?_
  refine wp_skip (x_norm (c_reg R121_3_l ?_))
  refine p_cons (s_row (xs := []) (vs := []) (cs := #[]) (pl P121_3 0) hE wn_none rfl Try.underlying33 rfl (by kernel_rfl) ?_)
  clear hE a; intro g1 w2 z3 B_g1 hk a hE
  have z_0_g1 := Nat.le_trans K_0.kept.1 z3
  replace K_0 := K_0.then_ hk (fun _ h => h.elim)
  clear hk
  refine q0 (pl P121_3 1) hE (st_move rfl) ?_; clear hE a; intro a hE
  have O_q4 := own_blk9 (k := .u8) (l := []) B_g1 (show w.heap.size ≤ g1 from z_0_g1) rfl (Nat.le_of_ble_eq_true rfl)
  have Z_0_q4 : ∀ k, OB (some ⟨g1, 0, none⟩) k → (fun _ => False) k ∨ w.heap.size ≤ k := fun k h => by have h := ob_blk.1 h; subst h; exact Or.inr z_0_g1
  refine p_cons (s_appendC (xs := []) (ys := l) (pl P121_3 2) hE wn_none rfl Try.underlying33 eD5 rfl O_q4 rfl (C_to h K_0) (by omega) (by omega) K_0.kept.1 ?_)
  clear hE a; intro Aq45 cq46 w7 O_q4' hk hat a hE
  rw [Nat.zero_add] at hE O_q4'
  rw [List.nil_append] at O_q4'
  have Z_0_q4' := grow_z Z_0_q4 K_0.kept.1 hat
  replace K_0 := K_0.then_ hk Z_0_q4
  replace Z_0_q4 := Z_0_q4'
  replace O_q4 : w7.ownsRow _ 5 1 (.slice Aq45 l.length cq46) l.length (encs (Value.int .u8) l) := O_q4'
  clear O_q4' hk hat
  refine q0 (pl P121_3 3) hE (st_assign rfl) ?_; clear hE a; intro a hE
  refine p_nil (x_norm (wp_ret ?_))
  refine ret_one (v := Value.slice Aq45 l.length cq46) rfl hE (.tmp rfl .nil) ?_
  exact ⟨_, _, rfl, O_q4, K_0⟩
theorem R81_0_l : List.range (regOf Try.f81 0).size = [0, 1] := by kernel_rfl
theorem R81_1_l : List.range (regOf Try.f81 1).size = [0, 1, 2, 3] := by kernel_rfl
theorem R81_2_l : List.range (regOf Try.f81 2).size = [0, 1] := by kernel_rfl
theorem R81_3_l : List.range (regOf Try.f81 3).size = [0, 1, 2] := by kernel_rfl
theorem R81_4_l : List.range (regOf Try.f81 4).size = [0, 1, 2] := by kernel_rfl
theorem R81_5_l : List.range (regOf Try.f81 5).size = [0] := by kernel_rfl
theorem R81_6_l : List.range (regOf Try.f81 6).size = [0, 1, 2] := by kernel_rfl
theorem R81_7_l : List.range (regOf Try.f81 7).size = [0] := by kernel_rfl
theorem R81_8_l : List.range (regOf Try.f81 8).size = [0, 1] := by kernel_rfl
theorem R81_9_l : List.range (regOf Try.f81 9).size = [0, 1] := by kernel_rfl
theorem R81_10_l : List.range (regOf Try.f81 10).size = [0, 1, 2, 3, 4, 5, 6, 7, 8, 9] := by kernel_rfl
theorem R81_11_l : List.range (regOf Try.f81 11).size = [0, 1, 2, 3, 4, 5, 6] := by kernel_rfl
theorem R81_12_l : List.range (regOf Try.f81 12).size = [0, 1, 2, 3, 4, 5] := by kernel_rfl
theorem R81_13_l : List.range (regOf Try.f81 13).size = [0, 1, 2] := by kernel_rfl
theorem R81_15_l : List.range (regOf Try.f81 15).size = [0, 1] := by kernel_rfl
theorem R81_16_l : List.range (regOf Try.f81 16).size = [0, 1, 2] := by kernel_rfl
theorem R81_18_l : List.range (regOf Try.f81 18).size = [0, 1, 2] := by kernel_rfl
theorem body81 : Try.f81.body = some (.seq (.region 0 (regOf Try.f81 0) false) (.seq (.seq (.region 1 (regOf Try.f81 1) false) (.cond (Operand.tmp 14) (.seq (.region 2 (regOf Try.f81 2) false) (.ret)) (.skip))) (.seq (.region 3 (regOf Try.f81 3) false) (.seq (.seq (.region 4 (regOf Try.f81 4) false) (.block 0 (.loop (.seq (.region 5 (regOf Try.f81 5) false) (.seq (.cond (Operand.tmp 20) (.skip) (.exit 0)) (.seq (.block 1 (.seq (.region 6 (regOf Try.f81 6) false) (.seq (.seq (.region 7 (regOf Try.f81 7) false) (.block 2 (.seq (.block 5 (.seq (.block 4 (.seq (.block 3 (.seq (.seq (.seq (.region 8 (regOf Try.f81 8) false) (.cond (Operand.tmp 24) (.exit 3) (.skip))) (.seq (.region 9 (regOf Try.f81 9) false) (.cond (Operand.tmp 26) (.exit 4) (.skip)))) (.exit 5))) (.region 10 (regOf Try.f81 10) false))) (.region 11 (regOf Try.f81 11) false))) (.seq (.region 12 (regOf Try.f81 12) false) (.exit 2))))) (.seq (.region 13 (regOf Try.f81 13) false) (.cond (Operand.tmp 50) (.seq (.region 14 (regOf Try.f81 14) false) (.ret)) (.skip)))))) (.region 15 (regOf Try.f81 15) false))))))) (.seq (.seq (.region 16 (regOf Try.f81 16) false) (.cond (Operand.tmp 54) (.seq (.region 17 (regOf Try.f81 17) false) (.ret)) (.skip))) (.seq (.region 18 (regOf Try.f81 18) false) (.ret))))))) := by kernel_rfl
theorem P81_0 : (List.range (regOf Try.f81 0).size).map (pj (regOf Try.f81 0)) = [zz 6 (.assign (.const (.slice none 0 0))) 33, zz 7 (.assign (.const (.int .i64 0))) 36] := by kernel_rfl
theorem P81_1 : (List.range (regOf Try.f81 1).size).map (pj (regOf Try.f81 1)) = [zz 11 (.move (.tmp 1)) 3, zz 12 (.move (.tmp 2)) 22, zz 13 (.call { callee := .value (.func 47), args := #[.tmp 11, .tmp 12], argTypes := #[3, 22] }) 4, zz 14 (.unOp .not 4 (.tmp 13)) 4] := by kernel_rfl
theorem cl47 : callable Try.f47 = true := by kernel_rfl
theorem P81_3 : (List.range (regOf Try.f81 3).size).map (pj (regOf Try.f81 3)) = [zz 15 (.move (.tmp 0)) 33, zz 16 (.call { callee := .value (.func 121), args := #[.tmp 15], argTypes := #[33] }) 33, zz 8 (.assign (.tmp 16)) 33] := by kernel_rfl
theorem cl121 : callable Try.f121 = true := by kernel_rfl
theorem P81_4 : (List.range (regOf Try.f81 4).size).map (pj (regOf Try.f81 4)) = [zz 17 (.move (.tmp 2)) 22, zz 18 (.call { callee := .builtin .len, args := #[.tmp 17], argTypes := #[22] }) 3, zz 19 (.move (.const (.int .i64 0))) 3] := by kernel_rfl
theorem p81_5_0 : pj (regOf Try.f81 5) 0 = some (some 20, .binOp .lss 3 (.tmp 19) (.tmp 18) 3, 0, none) := by kernel_rfl
theorem P81_6 : (List.range (regOf Try.f81 6).size).map (pj (regOf Try.f81 6)) = [zz 21 (.indexAddr 22 (.tmp 17) (.tmp 19)) 0, zz 22 (.load 3 (.tmp 21)) 3, zz 10 (.assign (.tmp 22)) 3] := by kernel_rfl
theorem p81_7_0 : pj (regOf Try.f81 7) 0 = some (some 23, .move (.tmp 1), 3, none) := by kernel_rfl
theorem P81_8 : (List.range (regOf Try.f81 8).size).map (pj (regOf Try.f81 8)) = [zz 25 (.binOp .eql 3 (.tmp 23) (.const (.int .i64 4)) 3) 4, zz 24 (.assign (.tmp 25)) 4] := by kernel_rfl
theorem P81_9 : (List.range (regOf Try.f81 9).size).map (pj (regOf Try.f81 9)) = [zz 27 (.binOp .eql 3 (.tmp 23) (.const (.int .i64 2)) 3) 4, zz 26 (.assign (.tmp 27)) 4] := by kernel_rfl
theorem P81_12 : (List.range (regOf Try.f81 12).size).map (pj (regOf Try.f81 12)) = [zz 43 (.move (.tmp 8)) 33, zz 44 (.move (.tmp 10)) 3, zz 45 (.convert 3 5 (.tmp 44)) 5, zz 46 (.buildSlice 33 1 #[(0, .tmp 45)]) 33, zz 47 (.call { callee := .builtin .append, args := #[.tmp 43, .tmp 46], argTypes := #[33, 33] }) 33, zz 8 (.assign (.tmp 47)) 33] := by kernel_rfl
theorem P81_13 : (List.range (regOf Try.f81 13).size).map (pj (regOf Try.f81 13)) = [zz 48 (.move (.tmp 8)) 33, zz 49 (.call { callee := .builtin .len, args := #[.tmp 48], argTypes := #[33] }) 3, zz 50 (.binOp .gtr 3 (.tmp 49) (.const (.int .i64 1280)) 3) 4] := by kernel_rfl
theorem P81_15 : (List.range (regOf Try.f81 15).size).map (pj (regOf Try.f81 15)) = [zz 51 (.binOp .add 3 (.tmp 19) (.const (.int .i64 1)) 3) 3, zz 19 (.move (.tmp 51)) 3] := by kernel_rfl
theorem P81_16 : (List.range (regOf Try.f81 16).size).map (pj (regOf Try.f81 16)) = [zz 52 (.move (.tmp 8)) 33, zz 53 (.call { callee := .builtin .len, args := #[.tmp 52], argTypes := #[33] }) 3, zz 54 (.binOp .gtr 3 (.tmp 53) (.const (.int .i64 1280)) 3) 4] := by kernel_rfl
theorem P81_18 : (List.range (regOf Try.f81 18).size).map (pj (regOf Try.f81 18)) = [zz 55 (.move (.tmp 8)) 33, zz 6 (.assign (.tmp 55)) 33, zz 7 (.assign (.const (.int .i64 0))) 36] := by kernel_rfl
set_option maxHeartbeats 4000000 in
theorem put_k1 (A B : Option Addr) (c cl : Nat) (X l : List Int) (hf : fitsF 1 l = true) (w : World) (hb : Kd.C (Kd.int .u8) w A X.length X) (h : Kd.C (Kd.int .i64) w B l.length l) (hc : l.length ≤ cl) (hlen : (X ++ putF 1 l).length ≤ 1280) : Calls Try.prog 81 #[.slice A X.length c, .int .i64 1, .slice B l.length cl] w fun e w' => ∃ v, e = .returned (.tuple #[v, .int .i64 0]) ∧ w'.ownsRow w.heap.size 5 1 v (X ++ putF 1 l).length (encs (Value.int .u8) (X ++ putF 1 l)) ∧ Below w.heap.size w w' := by
 have K_0 := Kp.refl w (fun _ => False)
 have hlmx := h.2.1
 have hfa := fits_at hf
 have hsp : spanF 1 = 256 := rfl
 rw [hsp] at hfa
 have hXl := hlen
 rw [List.length_append] at hXl
 refine enter (args := [Value.slice A X.length c, Value.int .i64 1, Value.slice B l.length cl]) (n := 56) Try.func81 body81 rfl rfl rfl ?_
 intro a hE
 refine c_reg R81_0_l ?_
 refine qn hE (rc (pl P81_0 0) (st_assign rfl) (rc (pl P81_0 1) (st_assign rfl) rn)) ?_; clear hE a; intro a hE
 refine p_nil (x_norm (wp_seq (c_reg R81_1_l ?_)))
 refine qn hE (rc (pl P81_1 0) (st_move rfl) (rc (pl P81_1 1) (st_move rfl) rn)) ?_; clear hE a; intro a hE
 refine p_cons (s_call (xs := [Operand.tmp 11, Operand.tmp 12]) (args := [Value.int .i64 1, Value.slice B l.length cl]) (pl P81_1 2) hE wn_none rfl rfl Try.func47 cl47 (fits_any B cl 1 l true hf _ (C_to h K_0) hc) ?_)
 rintro e w1 ⟨rfl, hk⟩
 replace K_0 := K_0.then_ hk (fun _ h => h.elim)
 refine ⟨_, rfl, ?_⟩; clear hE a; intro a hE
 refine q0 (pl P81_1 3) hE (st_not rfl rfl) ?_; clear hE a; intro a hE
 refine p_nil (x_norm ?_)
 refine c_cond (t := false) hE rfl ?_
 refine wp_skip (x_norm (c_reg R81_3_l ?_))
 refine q0 (pl P81_3 0) hE (st_move rfl) ?_; clear hE a; intro a hE
 have hnz_0 := K_0.kept.1
 refine p_cons (s_call (xs := [Operand.tmp 15]) (args := [Value.slice A X.length c]) (pl P81_3 1) hE wn_none rfl rfl Try.func121 cl121 (clone_b A c X _ (C_to hb K_0) (by have := hXl; omega)) ?_)
 rintro e w2 ⟨A1, c1, rfl, O_o, hk⟩
 replace K_0 := K_0.then_ hk (fun _ h => h.elim)
 have Z_0_o : ∀ k, OB A1 k → (fun _ => False) k ∨ w.heap.size ≤ k := fun k h => .inr (by have := (own_ob O_o h).1; have := hnz_0; omega)
 replace O_o := own_lower O_o hnz_0
 refine ⟨_, rfl, ?_⟩; clear hE a; intro a hE
 refine q0 (pl P81_3 2) hE (st_assign rfl) ?_; clear hE a; intro a hE
 refine p_nil (x_norm (wp_seq (c_reg R81_4_l ?_)))
 refine qn hE (rc (pl P81_4 0) (st_move rfl) (rc (pl P81_4 1) (st_len Try.underlying22 rfl) (rc (pl P81_4 2) (st_move rfl) rn))) ?_; clear hE a; intro a hE
 refine p_nil (x_norm (wp_block ?_))
 have O_o0 := O_o
 replace O_o : w2.ownsRow w.heap.size 5 1 (.slice A1 X.length c1) X.length (encs (Value.int .u8) (X ++ putF 1 (l.take 0))) := by simpa [putF] using O_o0
 refine c_loop (α := Nat) (fun j a W => ∃ (A_o : Option Addr) (c_o : Nat) (n_o : Nat), En 56 a [(0, Value.slice A X.length c), (1, Value.int .i64 1), (2, Value.slice B l.length cl), (14, Value.bool false), (17, Value.slice B l.length cl), (18, Value.int .i64 (l.length : Int)), (19, Value.int .i64 (j : Int)), (8, Value.slice A_o n_o c_o)] ∧ j ≤ l.length ∧ n_o = (X ++ putF 1 (l.take j)).length ∧ W.ownsRow w.heap.size 5 1 (.slice A_o n_o c_o) n_o (encs (Value.int .u8) (X ++ putF 1 (l.take j))) ∧ (∀ k, OB A_o k → (fun _ => False) k ∨ w.heap.size ≤ k) ∧ Kp w W (fun _ => False)) (fun j => l.length - j) (0) ?_ ?_
 ·
  exact ⟨A1, c1, X.length, En.sub hE ⟨rfl, rfl, rfl, rfl, rfl, rfl, rfl, rfl, trivial⟩, Nat.zero_le _, (by simp [putF]), O_o, Z_0_o, K_0⟩
 ·
  clear hE a
  rintro j a w3 ⟨A_o, c_o, n_o, hE, hj9, hn_o, O_o, Z_0_o, K_0⟩
  rcases Decidable.em ((j : Int) < (l.length : Int)) with hK1 | hK1
  ·
   refine c_reg R81_5_l ?_
   refine q0 p81_5_0 hE (st_lss (b := true) rfl rfl (decide_eq_true hK1)) ?_; clear hE a; intro a hE
   refine p_nil (x_norm (wp_seq ?_))
   refine c_cond (t := true) hE rfl ?_
   refine wp_skip (x_norm (wp_seq (wp_block (c_reg R81_6_l ?_))))
   have hjl : j < l.length := by omega
   have hfj := hfa.2 j hjl
   have hpl := put_len 1 l (j + 1)
   have hpt := congrArg List.length (put_take 1 l j hjl)
   have hdl : (digF 1 (rd l (j : Int))).length = 1 := rfl
   rw [List.length_append] at hpt
   have hno : n_o = X.length + (putF 1 (l.take j)).length := by rw [hn_o, List.length_append]
   refine qn hE (rc (pl P81_6 0) (st_indexAddrC (i := j) Try.underlying22 tS3 (C_to h K_0) rfl rfl (by omega)) (rc (v := Value.int .i64 (rd l (j : Int))) (pl P81_6 1) (st_loadC (i := j) tA3 (C_to h K_0) (by omega) rfl) (rc (pl P81_6 2) (st_assign rfl) rn))) ?_; clear hE a; intro a hE
   refine p_nil (x_norm (wp_seq (c_reg R81_7_l ?_)))
   refine q0 p81_7_0 hE (st_move rfl) ?_; clear hE a; intro a hE
   refine p_nil (x_norm (wp_block (wp_seq (wp_block (wp_seq (wp_block (wp_seq (wp_block (wp_seq (wp_seq (c_reg R81_8_l ?_)))))))))))
   refine qn hE (rc (pl P81_8 0) (st_eql (b := false) rfl rfl (by decide)) (rc (pl P81_8 1) (st_assign rfl) rn)) ?_; clear hE a; intro a hE
   refine p_nil (x_norm ?_)
   refine c_cond (t := false) hE rfl ?_
   refine wp_skip (x_norm (c_reg R81_9_l ?_))
   refine qn hE (rc (pl P81_9 0) (st_eql (b := false) rfl rfl (by decide)) (rc (pl P81_9 1) (st_assign rfl) rn)) ?_; clear hE a; intro a hE
   refine p_nil (x_norm ?_)
   refine c_cond (t := false) hE rfl ?_
   refine wp_skip (x_norm (wp_exit (x_out rfl (x_exit (x_out rfl (x_exit (x_in (x_norm (c_reg R81_12_l ?_)))))))))
   refine qn hE (rc (pl P81_12 0) (st_move rfl) (rc (pl P81_12 1) (st_move rfl) (rc (pl P81_12 2) (st_conv (z := ((rd l (j : Int)) % 256)) (by kernel_rfl) Try.underlying5 rfl (IntKind.wrap_u8 _)) rn))) ?_; clear hE a; intro a hE
   refine p_cons (s_row (xs := [(0, Operand.tmp 45)]) (vs := [(0, Value.int .u8 ((rd l (j : Int)) % 256))]) (cs := #[Value.int .u8 ((rd l (j : Int)) % 256)]) (pl P81_12 3) hE wn_none rfl Try.underlying33 rfl (by kernel_rfl) ?_)
   clear hE a; intro g4 w5 z6 B_g4 hk a hE
   have z_0_g4 := Nat.le_trans K_0.kept.1 z6
   have Nb_o_g4 : ¬ OB A_o g4 := fun h => by have := (own_ob O_o h).2; omega
   replace O_o := own_keep O_o hk (fun _ _ h => h)
   replace K_0 := K_0.then_ hk (fun _ h => h.elim)
   clear hk
   refine p_cons (s_appendC (xs := (X ++ putF 1 (l.take j))) (ys := [((rd l (j : Int)) % 256)]) (pl P81_12 4) hE wn_none rfl Try.underlying33 eD5 rfl O_o rfl (C_blk (k := .u8) (l := [((rd l (j : Int)) % 256)]) (off := 0) B_g4 ⟨rfl, Nat.le_of_ble_eq_true rfl⟩ rfl) (by omega) (by omega) K_0.kept.1 ?_)
   clear hE a; intro Ao7 co8 w9 O_o' hk hat a hE
   have Nb_o_g4' := grow_n Nb_o_g4 (blk_lt B_g4) hat
   have Z_0_o' := grow_z Z_0_o K_0.kept.1 hat
   replace B_g4 := kp_blk B_g4 hk Nb_o_g4
   replace K_0 := K_0.then_ hk Z_0_o
   replace Nb_o_g4 := Nb_o_g4'
   replace Z_0_o := Z_0_o'
   replace O_o : w9.ownsRow _ 5 1 (.slice Ao7 (n_o + 1) co8) (n_o + 1) (encs (Value.int .u8) ((X ++ putF 1 (l.take j)) ++ [((rd l (j : Int)) % 256)])) := O_o'
   clear O_o' hk hat
   refine q0 (pl P81_12 5) hE (st_assign rfl) ?_; clear hE a; intro a hE
   refine p_nil (x_norm (wp_exit (x_in (x_norm (c_reg R81_13_l ?_)))))
   refine qn hE (rc (pl P81_13 0) (st_move rfl) (rc (pl P81_13 1) (st_len Try.underlying33 rfl) (rc (pl P81_13 2) (st_gtr (b := false) rfl rfl (decide_eq_false (by omega))) rn))) ?_; clear hE a; intro a hE
   refine p_nil (x_norm ?_)
   refine c_cond (t := false) hE rfl ?_
   refine wp_skip (x_normB (x_norm (c_regL R81_15_l ?_)))
   refine qn hE (rc (pl P81_15 0) (st_add (z := (j : Int) + 1) rfl rfl (wr_i64 _ (by omega) (by omega))) (rc (pl P81_15 1) (st_move rfl) rn)) ?_; clear hE a; intro a hE
   refine p_nil (x_norm ?_)
   have e9 : ((X ++ putF 1 (l.take j)) ++ [((rd l (j : Int)) % 256)]) = (X ++ putF 1 (l.take (j + 1))) := by rw [put_take 1 l j hjl]; simp [digF]
   rw [e9] at O_o
   exact ⟨j + 1, by omega, Ao7, co8, (n_o + 1), En.sub hE ⟨rfl, rfl, rfl, rfl, rfl, rfl, rfl, rfl, trivial⟩, (by omega), (by rw [← e9]; simp only [List.length_append, List.length_cons, List.length_nil, ← hn_o]), O_o, Z_0_o, K_0⟩
  ·
   refine c_reg R81_5_l ?_
   refine q0 p81_5_0 hE (st_lss (b := false) rfl rfl (decide_eq_false hK1)) ?_; clear hE a; intro a hE
   refine p_nil (x_norm (wp_seq ?_))
   refine c_cond (t := false) hE rfl ?_
   refine wp_exit (x_exit (x_exit (x_in (x_norm (wp_seq (c_reg R81_16_l ?_))))))
   have hpl := put_len 1 l j
   have hno : n_o = X.length + (putF 1 (l.take j)).length := by rw [hn_o, List.length_append]
   refine qn hE (rc (pl P81_16 0) (st_move rfl) (rc (pl P81_16 1) (st_len Try.underlying33 rfl) (rc (pl P81_16 2) (st_gtr (b := false) rfl rfl (decide_eq_false (by omega))) rn))) ?_; clear hE a; intro a hE
   refine p_nil (x_norm ?_)
   refine c_cond (t := false) hE rfl ?_
   refine wp_skip (x_norm (c_reg R81_18_l ?_))
   refine qn hE (rc (pl P81_18 0) (st_move rfl) (rc (pl P81_18 1) (st_assign rfl) (rc (pl P81_18 2) (st_assign rfl) rn))) ?_; clear hE a; intro a hE
   refine p_nil (x_norm (wp_ret ?_))
   refine ret_list (rs := [.tmp 6, .tmp 7]) (vs := [Value.slice A_o n_o c_o, Value.int .i64 0]) rfl hE (.tmp rfl (.tmp rfl .nil)) rfl ?_
   obtain rfl : j = l.length := by omega
   rw [List.take_length] at O_o hn_o
   subst hn_o
   exact ⟨_, rfl, O_o, K_0.to (Nat.le_refl _) (fun _ h => h.elim)⟩
theorem P81_11 : (List.range (regOf Try.f81 11).size).map (pj (regOf Try.f81 11)) = [zz 37 (.move (.tmp 8)) 33, zz 38 (.move (.tmp 10)) 3, zz 39 (.binOp .shr 3 (.tmp 38) (.const (.int .u64 8)) 148) 3, zz 40 (.convert 3 5 (.tmp 39)) 5, zz 41 (.buildSlice 33 1 #[(0, .tmp 40)]) 33, zz 42 (.call { callee := .builtin .append, args := #[.tmp 37, .tmp 41], argTypes := #[33, 33] }) 33, zz 8 (.assign (.tmp 42)) 33] := by kernel_rfl
set_option maxHeartbeats 4000000 in
theorem put_k2 (A B : Option Addr) (c cl : Nat) (X l : List Int) (hf : fitsF 2 l = true) (w : World) (hb : Kd.C (Kd.int .u8) w A X.length X) (h : Kd.C (Kd.int .i64) w B l.length l) (hc : l.length ≤ cl) (hlen : (X ++ putF 2 l).length ≤ 1280) : Calls Try.prog 81 #[.slice A X.length c, .int .i64 2, .slice B l.length cl] w fun e w' => ∃ v, e = .returned (.tuple #[v, .int .i64 0]) ∧ w'.ownsRow w.heap.size 5 1 v (X ++ putF 2 l).length (encs (Value.int .u8) (X ++ putF 2 l)) ∧ Below w.heap.size w w' := by
 have K_0 := Kp.refl w (fun _ => False)
 have hlmx := h.2.1
 have hfa := fits_at hf
 have hsp : spanF 2 = 65536 := rfl
 rw [hsp] at hfa
 have hXl := hlen
 rw [List.length_append] at hXl
 refine enter (args := [Value.slice A X.length c, Value.int .i64 2, Value.slice B l.length cl]) (n := 56) Try.func81 body81 rfl rfl rfl ?_
 intro a hE
 refine c_reg R81_0_l ?_
 refine qn hE (rc (pl P81_0 0) (st_assign rfl) (rc (pl P81_0 1) (st_assign rfl) rn)) ?_; clear hE a; intro a hE
 refine p_nil (x_norm (wp_seq (c_reg R81_1_l ?_)))
 refine qn hE (rc (pl P81_1 0) (st_move rfl) (rc (pl P81_1 1) (st_move rfl) rn)) ?_; clear hE a; intro a hE
 refine p_cons (s_call (xs := [Operand.tmp 11, Operand.tmp 12]) (args := [Value.int .i64 2, Value.slice B l.length cl]) (pl P81_1 2) hE wn_none rfl rfl Try.func47 cl47 (fits_any B cl 2 l true hf _ (C_to h K_0) hc) ?_)
 rintro e w1 ⟨rfl, hk⟩
 replace K_0 := K_0.then_ hk (fun _ h => h.elim)
 refine ⟨_, rfl, ?_⟩; clear hE a; intro a hE
 refine q0 (pl P81_1 3) hE (st_not rfl rfl) ?_; clear hE a; intro a hE
 refine p_nil (x_norm ?_)
 refine c_cond (t := false) hE rfl ?_
 refine wp_skip (x_norm (c_reg R81_3_l ?_))
 refine q0 (pl P81_3 0) hE (st_move rfl) ?_; clear hE a; intro a hE
 have hnz_0 := K_0.kept.1
 refine p_cons (s_call (xs := [Operand.tmp 15]) (args := [Value.slice A X.length c]) (pl P81_3 1) hE wn_none rfl rfl Try.func121 cl121 (clone_b A c X _ (C_to hb K_0) (by have := hXl; omega)) ?_)
 rintro e w2 ⟨A1, c1, rfl, O_o, hk⟩
 replace K_0 := K_0.then_ hk (fun _ h => h.elim)
 have Z_0_o : ∀ k, OB A1 k → (fun _ => False) k ∨ w.heap.size ≤ k := fun k h => .inr (by have := (own_ob O_o h).1; have := hnz_0; omega)
 replace O_o := own_lower O_o hnz_0
 refine ⟨_, rfl, ?_⟩; clear hE a; intro a hE
 refine q0 (pl P81_3 2) hE (st_assign rfl) ?_; clear hE a; intro a hE
 refine p_nil (x_norm (wp_seq (c_reg R81_4_l ?_)))
 refine qn hE (rc (pl P81_4 0) (st_move rfl) (rc (pl P81_4 1) (st_len Try.underlying22 rfl) (rc (pl P81_4 2) (st_move rfl) rn))) ?_; clear hE a; intro a hE
 refine p_nil (x_norm (wp_block ?_))
 have O_o0 := O_o
 replace O_o : w2.ownsRow w.heap.size 5 1 (.slice A1 X.length c1) X.length (encs (Value.int .u8) (X ++ putF 2 (l.take 0))) := by simpa [putF] using O_o0
 refine c_loop (α := Nat) (fun j a W => ∃ (A_o : Option Addr) (c_o : Nat) (n_o : Nat), En 56 a [(0, Value.slice A X.length c), (1, Value.int .i64 2), (2, Value.slice B l.length cl), (14, Value.bool false), (17, Value.slice B l.length cl), (18, Value.int .i64 (l.length : Int)), (19, Value.int .i64 (j : Int)), (8, Value.slice A_o n_o c_o)] ∧ j ≤ l.length ∧ n_o = (X ++ putF 2 (l.take j)).length ∧ W.ownsRow w.heap.size 5 1 (.slice A_o n_o c_o) n_o (encs (Value.int .u8) (X ++ putF 2 (l.take j))) ∧ (∀ k, OB A_o k → (fun _ => False) k ∨ w.heap.size ≤ k) ∧ Kp w W (fun _ => False)) (fun j => l.length - j) (0) ?_ ?_
 ·
  exact ⟨A1, c1, X.length, En.sub hE ⟨rfl, rfl, rfl, rfl, rfl, rfl, rfl, rfl, trivial⟩, Nat.zero_le _, (by simp [putF]), O_o, Z_0_o, K_0⟩
 ·
  clear hE a
  rintro j a w3 ⟨A_o, c_o, n_o, hE, hj9, hn_o, O_o, Z_0_o, K_0⟩
  rcases Decidable.em ((j : Int) < (l.length : Int)) with hK1 | hK1
  ·
   refine c_reg R81_5_l ?_
   refine q0 p81_5_0 hE (st_lss (b := true) rfl rfl (decide_eq_true hK1)) ?_; clear hE a; intro a hE
   refine p_nil (x_norm (wp_seq ?_))
   refine c_cond (t := true) hE rfl ?_
   refine wp_skip (x_norm (wp_seq (wp_block (c_reg R81_6_l ?_))))
   have hjl : j < l.length := by omega
   have hfj := hfa.2 j hjl
   have hpl := put_len 2 l (j + 1)
   have hpt := congrArg List.length (put_take 2 l j hjl)
   have hdl : (digF 2 (rd l (j : Int))).length = 2 := rfl
   rw [List.length_append] at hpt
   have hno : n_o = X.length + (putF 2 (l.take j)).length := by rw [hn_o, List.length_append]
   refine qn hE (rc (pl P81_6 0) (st_indexAddrC (i := j) Try.underlying22 tS3 (C_to h K_0) rfl rfl (by omega)) (rc (v := Value.int .i64 (rd l (j : Int))) (pl P81_6 1) (st_loadC (i := j) tA3 (C_to h K_0) (by omega) rfl) (rc (pl P81_6 2) (st_assign rfl) rn))) ?_; clear hE a; intro a hE
   refine p_nil (x_norm (wp_seq (c_reg R81_7_l ?_)))
   refine q0 p81_7_0 hE (st_move rfl) ?_; clear hE a; intro a hE
   refine p_nil (x_norm (wp_block (wp_seq (wp_block (wp_seq (wp_block (wp_seq (wp_block (wp_seq (wp_seq (c_reg R81_8_l ?_)))))))))))
   refine qn hE (rc (pl P81_8 0) (st_eql (b := false) rfl rfl (by decide)) (rc (pl P81_8 1) (st_assign rfl) rn)) ?_; clear hE a; intro a hE
   refine p_nil (x_norm ?_)
   refine c_cond (t := false) hE rfl ?_
   refine wp_skip (x_norm (c_reg R81_9_l ?_))
   refine qn hE (rc (pl P81_9 0) (st_eql (b := true) rfl rfl (by decide)) (rc (pl P81_9 1) (st_assign rfl) rn)) ?_; clear hE a; intro a hE
   refine p_nil (x_norm ?_)
   refine c_cond (t := true) hE rfl ?_
   refine wp_exit (x_exit (x_out rfl (x_exit (x_in (x_norm (c_regL R81_11_l ?_))))))
   refine qn hE (rc (pl P81_11 0) (st_move rfl) (rc (pl P81_11 1) (st_move rfl) (rc (pl P81_11 2) (st_shr (z := (rd l (j : Int)) / 256) rfl rfl (by decide) (by decide) (by rfl)) (rc (pl P81_11 3) (st_conv (z := (((rd l (j : Int)) / 256) % 256)) (by kernel_rfl) Try.underlying5 rfl (IntKind.wrap_u8 _)) rn)))) ?_; clear hE a; intro a hE
   refine p_cons (s_row (xs := [(0, Operand.tmp 40)]) (vs := [(0, Value.int .u8 (((rd l (j : Int)) / 256) % 256))]) (cs := #[Value.int .u8 (((rd l (j : Int)) / 256) % 256)]) (pl P81_11 4) hE wn_none rfl Try.underlying33 rfl (by kernel_rfl) ?_)
   clear hE a; intro g4 w5 z6 B_g4 hk a hE
   have z_0_g4 := Nat.le_trans K_0.kept.1 z6
   have Nb_o_g4 : ¬ OB A_o g4 := fun h => by have := (own_ob O_o h).2; omega
   replace O_o := own_keep O_o hk (fun _ _ h => h)
   replace K_0 := K_0.then_ hk (fun _ h => h.elim)
   clear hk
   refine p_cons (s_appendC (xs := (X ++ putF 2 (l.take j))) (ys := [(((rd l (j : Int)) / 256) % 256)]) (pl P81_11 5) hE wn_none rfl Try.underlying33 eD5 rfl O_o rfl (C_blk (k := .u8) (l := [(((rd l (j : Int)) / 256) % 256)]) (off := 0) B_g4 ⟨rfl, Nat.le_of_ble_eq_true rfl⟩ rfl) (by omega) (by omega) K_0.kept.1 ?_)
   clear hE a; intro Ao7 co8 w9 O_o' hk hat a hE
   have Nb_o_g4' := grow_n Nb_o_g4 (blk_lt B_g4) hat
   have Z_0_o' := grow_z Z_0_o K_0.kept.1 hat
   replace B_g4 := kp_blk B_g4 hk Nb_o_g4
   replace K_0 := K_0.then_ hk Z_0_o
   replace Nb_o_g4 := Nb_o_g4'
   replace Z_0_o := Z_0_o'
   replace O_o : w9.ownsRow _ 5 1 (.slice Ao7 (n_o + 1) co8) (n_o + 1) (encs (Value.int .u8) ((X ++ putF 2 (l.take j)) ++ [(((rd l (j : Int)) / 256) % 256)])) := O_o'
   clear O_o' hk hat
   refine q0 (pl P81_11 6) hE (st_assign rfl) ?_; clear hE a; intro a hE
   refine p_nil (x_normB (x_norm (c_reg R81_12_l ?_)))
   refine qn hE (rc (pl P81_12 0) (st_move rfl) (rc (pl P81_12 1) (st_move rfl) (rc (pl P81_12 2) (st_conv (z := ((rd l (j : Int)) % 256)) (by kernel_rfl) Try.underlying5 rfl (IntKind.wrap_u8 _)) rn))) ?_; clear hE a; intro a hE
   refine p_cons (s_row (xs := [(0, Operand.tmp 45)]) (vs := [(0, Value.int .u8 ((rd l (j : Int)) % 256))]) (cs := #[Value.int .u8 ((rd l (j : Int)) % 256)]) (pl P81_12 3) hE wn_none rfl Try.underlying33 rfl (by kernel_rfl) ?_)
   clear hE a; intro g10 w11 z12 B_g10 hk a hE
   have n_g4_g10 : g4 ≠ g10 := ne_new B_g4 z12
   have z_0_g10 := Nat.le_trans K_0.kept.1 z12
   have Nb_o_g10 : ¬ OB Ao7 g10 := fun h => by have := (own_ob O_o h).2; omega
   replace B_g4 := kp_blk B_g4 hk (fun h => h)
   replace O_o := own_keep O_o hk (fun _ _ h => h)
   replace K_0 := K_0.then_ hk (fun _ h => h.elim)
   clear hk
   refine p_cons (s_appendC (xs := ((X ++ putF 2 (l.take j)) ++ [(((rd l (j : Int)) / 256) % 256)])) (ys := [((rd l (j : Int)) % 256)]) (pl P81_12 4) hE wn_none rfl Try.underlying33 eD5 rfl O_o rfl (C_blk (k := .u8) (l := [((rd l (j : Int)) % 256)]) (off := 0) B_g10 ⟨rfl, Nat.le_of_ble_eq_true rfl⟩ rfl) (by omega) (by omega) K_0.kept.1 ?_)
   clear hE a; intro Ao13 co14 w15 O_o' hk hat a hE
   have Nb_o_g4' := grow_n Nb_o_g4 (blk_lt B_g4) hat
   have Nb_o_g10' := grow_n Nb_o_g10 (blk_lt B_g10) hat
   have Z_0_o' := grow_z Z_0_o K_0.kept.1 hat
   replace B_g4 := kp_blk B_g4 hk Nb_o_g4
   replace B_g10 := kp_blk B_g10 hk Nb_o_g10
   replace K_0 := K_0.then_ hk Z_0_o
   replace Nb_o_g4 := Nb_o_g4'
   replace Nb_o_g10 := Nb_o_g10'
   replace Z_0_o := Z_0_o'
   replace O_o : w15.ownsRow _ 5 1 (.slice Ao13 ((n_o + 1) + 1) co14) ((n_o + 1) + 1) (encs (Value.int .u8) (((X ++ putF 2 (l.take j)) ++ [(((rd l (j : Int)) / 256) % 256)]) ++ [((rd l (j : Int)) % 256)])) := O_o'
   clear O_o' hk hat
   refine q0 (pl P81_12 5) hE (st_assign rfl) ?_; clear hE a; intro a hE
   refine p_nil (x_norm (wp_exit (x_in (x_norm (c_reg R81_13_l ?_)))))
   refine qn hE (rc (pl P81_13 0) (st_move rfl) (rc (pl P81_13 1) (st_len Try.underlying33 rfl) (rc (pl P81_13 2) (st_gtr (b := false) rfl rfl (decide_eq_false (by omega))) rn))) ?_; clear hE a; intro a hE
   refine p_nil (x_norm ?_)
   refine c_cond (t := false) hE rfl ?_
   refine wp_skip (x_normB (x_norm (c_regL R81_15_l ?_)))
   refine qn hE (rc (pl P81_15 0) (st_add (z := (j : Int) + 1) rfl rfl (wr_i64 _ (by omega) (by omega))) (rc (pl P81_15 1) (st_move rfl) rn)) ?_; clear hE a; intro a hE
   refine p_nil (x_norm ?_)
   have e9 : (((X ++ putF 2 (l.take j)) ++ [(((rd l (j : Int)) / 256) % 256)]) ++ [((rd l (j : Int)) % 256)]) = (X ++ putF 2 (l.take (j + 1))) := by rw [put_take 2 l j hjl]; simp [digF]
   rw [e9] at O_o
   exact ⟨j + 1, by omega, Ao13, co14, ((n_o + 1) + 1), En.sub hE ⟨rfl, rfl, rfl, rfl, rfl, rfl, rfl, rfl, trivial⟩, (by omega), (by rw [← e9]; simp only [List.length_append, List.length_cons, List.length_nil, ← hn_o]), O_o, Z_0_o, K_0⟩
  ·
   refine c_reg R81_5_l ?_
   refine q0 p81_5_0 hE (st_lss (b := false) rfl rfl (decide_eq_false hK1)) ?_; clear hE a; intro a hE
   refine p_nil (x_norm (wp_seq ?_))
   refine c_cond (t := false) hE rfl ?_
   refine wp_exit (x_exit (x_exit (x_in (x_norm (wp_seq (c_reg R81_16_l ?_))))))
   have hpl := put_len 2 l j
   have hno : n_o = X.length + (putF 2 (l.take j)).length := by rw [hn_o, List.length_append]
   refine qn hE (rc (pl P81_16 0) (st_move rfl) (rc (pl P81_16 1) (st_len Try.underlying33 rfl) (rc (pl P81_16 2) (st_gtr (b := false) rfl rfl (decide_eq_false (by omega))) rn))) ?_; clear hE a; intro a hE
   refine p_nil (x_norm ?_)
   refine c_cond (t := false) hE rfl ?_
   refine wp_skip (x_norm (c_reg R81_18_l ?_))
   refine qn hE (rc (pl P81_18 0) (st_move rfl) (rc (pl P81_18 1) (st_assign rfl) (rc (pl P81_18 2) (st_assign rfl) rn))) ?_; clear hE a; intro a hE
   refine p_nil (x_norm (wp_ret ?_))
   refine ret_list (rs := [.tmp 6, .tmp 7]) (vs := [Value.slice A_o n_o c_o, Value.int .i64 0]) rfl hE (.tmp rfl (.tmp rfl .nil)) rfl ?_
   obtain rfl : j = l.length := by omega
   rw [List.take_length] at O_o hn_o
   subst hn_o
   exact ⟨_, rfl, O_o, K_0.to (Nat.le_refl _) (fun _ h => h.elim)⟩
theorem P81_10 : (List.range (regOf Try.f81 10).size).map (pj (regOf Try.f81 10)) = [zz 28 (.move (.tmp 8)) 33, zz 29 (.move (.tmp 10)) 3, zz 30 (.binOp .shr 3 (.tmp 29) (.const (.int .u64 24)) 148) 3, zz 31 (.convert 3 5 (.tmp 30)) 5, zz 32 (.move (.tmp 10)) 3, zz 33 (.binOp .shr 3 (.tmp 32) (.const (.int .u64 16)) 148) 3, zz 34 (.convert 3 5 (.tmp 33)) 5, zz 35 (.buildSlice 33 2 #[(0, .tmp 31), (1, .tmp 34)]) 33, zz 36 (.call { callee := .builtin .append, args := #[.tmp 28, .tmp 35], argTypes := #[33, 33] }) 33, zz 8 (.assign (.tmp 36)) 33] := by kernel_rfl
set_option maxHeartbeats 4000000 in
theorem put_k4 (A B : Option Addr) (c cl : Nat) (X l : List Int) (hf : fitsF 4 l = true) (w : World) (hb : Kd.C (Kd.int .u8) w A X.length X) (h : Kd.C (Kd.int .i64) w B l.length l) (hc : l.length ≤ cl) (hlen : (X ++ putF 4 l).length ≤ 1280) : Calls Try.prog 81 #[.slice A X.length c, .int .i64 4, .slice B l.length cl] w fun e w' => ∃ v, e = .returned (.tuple #[v, .int .i64 0]) ∧ w'.ownsRow w.heap.size 5 1 v (X ++ putF 4 l).length (encs (Value.int .u8) (X ++ putF 4 l)) ∧ Below w.heap.size w w' := by
 have K_0 := Kp.refl w (fun _ => False)
 have hlmx := h.2.1
 have hfa := fits_at hf
 have hsp : spanF 4 = 4294967296 := rfl
 rw [hsp] at hfa
 have hXl := hlen
 rw [List.length_append] at hXl
 refine enter (args := [Value.slice A X.length c, Value.int .i64 4, Value.slice B l.length cl]) (n := 56) Try.func81 body81 rfl rfl rfl ?_
 intro a hE
 refine c_reg R81_0_l ?_
 refine qn hE (rc (pl P81_0 0) (st_assign rfl) (rc (pl P81_0 1) (st_assign rfl) rn)) ?_; clear hE a; intro a hE
 refine p_nil (x_norm (wp_seq (c_reg R81_1_l ?_)))
 refine qn hE (rc (pl P81_1 0) (st_move rfl) (rc (pl P81_1 1) (st_move rfl) rn)) ?_; clear hE a; intro a hE
 refine p_cons (s_call (xs := [Operand.tmp 11, Operand.tmp 12]) (args := [Value.int .i64 4, Value.slice B l.length cl]) (pl P81_1 2) hE wn_none rfl rfl Try.func47 cl47 (fits_any B cl 4 l true hf _ (C_to h K_0) hc) ?_)
 rintro e w1 ⟨rfl, hk⟩
 replace K_0 := K_0.then_ hk (fun _ h => h.elim)
 refine ⟨_, rfl, ?_⟩; clear hE a; intro a hE
 refine q0 (pl P81_1 3) hE (st_not rfl rfl) ?_; clear hE a; intro a hE
 refine p_nil (x_norm ?_)
 refine c_cond (t := false) hE rfl ?_
 refine wp_skip (x_norm (c_reg R81_3_l ?_))
 refine q0 (pl P81_3 0) hE (st_move rfl) ?_; clear hE a; intro a hE
 have hnz_0 := K_0.kept.1
 refine p_cons (s_call (xs := [Operand.tmp 15]) (args := [Value.slice A X.length c]) (pl P81_3 1) hE wn_none rfl rfl Try.func121 cl121 (clone_b A c X _ (C_to hb K_0) (by have := hXl; omega)) ?_)
 rintro e w2 ⟨A1, c1, rfl, O_o, hk⟩
 replace K_0 := K_0.then_ hk (fun _ h => h.elim)
 have Z_0_o : ∀ k, OB A1 k → (fun _ => False) k ∨ w.heap.size ≤ k := fun k h => .inr (by have := (own_ob O_o h).1; have := hnz_0; omega)
 replace O_o := own_lower O_o hnz_0
 refine ⟨_, rfl, ?_⟩; clear hE a; intro a hE
 refine q0 (pl P81_3 2) hE (st_assign rfl) ?_; clear hE a; intro a hE
 refine p_nil (x_norm (wp_seq (c_reg R81_4_l ?_)))
 refine qn hE (rc (pl P81_4 0) (st_move rfl) (rc (pl P81_4 1) (st_len Try.underlying22 rfl) (rc (pl P81_4 2) (st_move rfl) rn))) ?_; clear hE a; intro a hE
 refine p_nil (x_norm (wp_block ?_))
 have O_o0 := O_o
 replace O_o : w2.ownsRow w.heap.size 5 1 (.slice A1 X.length c1) X.length (encs (Value.int .u8) (X ++ putF 4 (l.take 0))) := by simpa [putF] using O_o0
 refine c_loop (α := Nat) (fun j a W => ∃ (A_o : Option Addr) (c_o : Nat) (n_o : Nat), En 56 a [(0, Value.slice A X.length c), (1, Value.int .i64 4), (2, Value.slice B l.length cl), (14, Value.bool false), (17, Value.slice B l.length cl), (18, Value.int .i64 (l.length : Int)), (19, Value.int .i64 (j : Int)), (8, Value.slice A_o n_o c_o)] ∧ j ≤ l.length ∧ n_o = (X ++ putF 4 (l.take j)).length ∧ W.ownsRow w.heap.size 5 1 (.slice A_o n_o c_o) n_o (encs (Value.int .u8) (X ++ putF 4 (l.take j))) ∧ (∀ k, OB A_o k → (fun _ => False) k ∨ w.heap.size ≤ k) ∧ Kp w W (fun _ => False)) (fun j => l.length - j) (0) ?_ ?_
 ·
  exact ⟨A1, c1, X.length, En.sub hE ⟨rfl, rfl, rfl, rfl, rfl, rfl, rfl, rfl, trivial⟩, Nat.zero_le _, (by simp [putF]), O_o, Z_0_o, K_0⟩
 ·
  clear hE a
  rintro j a w3 ⟨A_o, c_o, n_o, hE, hj9, hn_o, O_o, Z_0_o, K_0⟩
  rcases Decidable.em ((j : Int) < (l.length : Int)) with hK1 | hK1
  ·
   refine c_reg R81_5_l ?_
   refine q0 p81_5_0 hE (st_lss (b := true) rfl rfl (decide_eq_true hK1)) ?_; clear hE a; intro a hE
   refine p_nil (x_norm (wp_seq ?_))
   refine c_cond (t := true) hE rfl ?_
   refine wp_skip (x_norm (wp_seq (wp_block (c_reg R81_6_l ?_))))
   have hjl : j < l.length := by omega
   have hfj := hfa.2 j hjl
   have hpl := put_len 4 l (j + 1)
   have hpt := congrArg List.length (put_take 4 l j hjl)
   have hdl : (digF 4 (rd l (j : Int))).length = 4 := rfl
   rw [List.length_append] at hpt
   have hno : n_o = X.length + (putF 4 (l.take j)).length := by rw [hn_o, List.length_append]
   refine qn hE (rc (pl P81_6 0) (st_indexAddrC (i := j) Try.underlying22 tS3 (C_to h K_0) rfl rfl (by omega)) (rc (v := Value.int .i64 (rd l (j : Int))) (pl P81_6 1) (st_loadC (i := j) tA3 (C_to h K_0) (by omega) rfl) (rc (pl P81_6 2) (st_assign rfl) rn))) ?_; clear hE a; intro a hE
   refine p_nil (x_norm (wp_seq (c_reg R81_7_l ?_)))
   refine q0 p81_7_0 hE (st_move rfl) ?_; clear hE a; intro a hE
   refine p_nil (x_norm (wp_block (wp_seq (wp_block (wp_seq (wp_block (wp_seq (wp_block (wp_seq (wp_seq (c_reg R81_8_l ?_)))))))))))
   refine qn hE (rc (pl P81_8 0) (st_eql (b := true) rfl rfl (by decide)) (rc (pl P81_8 1) (st_assign rfl) rn)) ?_; clear hE a; intro a hE
   refine p_nil (x_norm ?_)
   refine c_cond (t := true) hE rfl ?_
   refine wp_exit (x_exit (x_exit (x_in (x_norm (c_regL R81_10_l ?_)))))
   refine qn hE (rc (pl P81_10 0) (st_move rfl) (rc (pl P81_10 1) (st_move rfl) (rc (pl P81_10 2) (st_shr (z := (rd l (j : Int)) / 16777216) rfl rfl (by decide) (by decide) (by rfl)) (rc (pl P81_10 3) (st_conv (z := (((rd l (j : Int)) / 16777216) % 256)) (by kernel_rfl) Try.underlying5 rfl (IntKind.wrap_u8 _)) (rc (pl P81_10 4) (st_move rfl) (rc (pl P81_10 5) (st_shr (z := (rd l (j : Int)) / 65536) rfl rfl (by decide) (by decide) (by rfl)) (rc (pl P81_10 6) (st_conv (z := (((rd l (j : Int)) / 65536) % 256)) (by kernel_rfl) Try.underlying5 rfl (IntKind.wrap_u8 _)) rn))))))) ?_; clear hE a; intro a hE
   refine p_cons (s_row (xs := [(0, Operand.tmp 31), (1, Operand.tmp 34)]) (vs := [(0, Value.int .u8 (((rd l (j : Int)) / 16777216) % 256)), (1, Value.int .u8 (((rd l (j : Int)) / 65536) % 256))]) (cs := #[Value.int .u8 (((rd l (j : Int)) / 16777216) % 256), Value.int .u8 (((rd l (j : Int)) / 65536) % 256)]) (pl P81_10 7) hE wn_none rfl Try.underlying33 rfl (by kernel_rfl) ?_)
   clear hE a; intro g4 w5 z6 B_g4 hk a hE
   have z_0_g4 := Nat.le_trans K_0.kept.1 z6
   have Nb_o_g4 : ¬ OB A_o g4 := fun h => by have := (own_ob O_o h).2; omega
   replace O_o := own_keep O_o hk (fun _ _ h => h)
   replace K_0 := K_0.then_ hk (fun _ h => h.elim)
   clear hk
   refine p_cons (s_appendC (xs := (X ++ putF 4 (l.take j))) (ys := [(((rd l (j : Int)) / 16777216) % 256), (((rd l (j : Int)) / 65536) % 256)]) (pl P81_10 8) hE wn_none rfl Try.underlying33 eD5 rfl O_o rfl (C_blk (k := .u8) (l := [(((rd l (j : Int)) / 16777216) % 256), (((rd l (j : Int)) / 65536) % 256)]) (off := 0) B_g4 ⟨rfl, Nat.le_of_ble_eq_true rfl⟩ rfl) (by omega) (by omega) K_0.kept.1 ?_)
   clear hE a; intro Ao7 co8 w9 O_o' hk hat a hE
   have Nb_o_g4' := grow_n Nb_o_g4 (blk_lt B_g4) hat
   have Z_0_o' := grow_z Z_0_o K_0.kept.1 hat
   replace B_g4 := kp_blk B_g4 hk Nb_o_g4
   replace K_0 := K_0.then_ hk Z_0_o
   replace Nb_o_g4 := Nb_o_g4'
   replace Z_0_o := Z_0_o'
   replace O_o : w9.ownsRow _ 5 1 (.slice Ao7 (n_o + 2) co8) (n_o + 2) (encs (Value.int .u8) ((X ++ putF 4 (l.take j)) ++ [(((rd l (j : Int)) / 16777216) % 256), (((rd l (j : Int)) / 65536) % 256)])) := O_o'
   clear O_o' hk hat
   refine q0 (pl P81_10 9) hE (st_assign rfl) ?_; clear hE a; intro a hE
   refine p_nil (x_normB (x_norm (c_regL R81_11_l ?_)))
   refine qn hE (rc (pl P81_11 0) (st_move rfl) (rc (pl P81_11 1) (st_move rfl) (rc (pl P81_11 2) (st_shr (z := (rd l (j : Int)) / 256) rfl rfl (by decide) (by decide) (by rfl)) (rc (pl P81_11 3) (st_conv (z := (((rd l (j : Int)) / 256) % 256)) (by kernel_rfl) Try.underlying5 rfl (IntKind.wrap_u8 _)) rn)))) ?_; clear hE a; intro a hE
   refine p_cons (s_row (xs := [(0, Operand.tmp 40)]) (vs := [(0, Value.int .u8 (((rd l (j : Int)) / 256) % 256))]) (cs := #[Value.int .u8 (((rd l (j : Int)) / 256) % 256)]) (pl P81_11 4) hE wn_none rfl Try.underlying33 rfl (by kernel_rfl) ?_)
   clear hE a; intro g10 w11 z12 B_g10 hk a hE
   have n_g4_g10 : g4 ≠ g10 := ne_new B_g4 z12
   have z_0_g10 := Nat.le_trans K_0.kept.1 z12
   have Nb_o_g10 : ¬ OB Ao7 g10 := fun h => by have := (own_ob O_o h).2; omega
   replace B_g4 := kp_blk B_g4 hk (fun h => h)
   replace O_o := own_keep O_o hk (fun _ _ h => h)
   replace K_0 := K_0.then_ hk (fun _ h => h.elim)
   clear hk
   refine p_cons (s_appendC (xs := ((X ++ putF 4 (l.take j)) ++ [(((rd l (j : Int)) / 16777216) % 256), (((rd l (j : Int)) / 65536) % 256)])) (ys := [(((rd l (j : Int)) / 256) % 256)]) (pl P81_11 5) hE wn_none rfl Try.underlying33 eD5 rfl O_o rfl (C_blk (k := .u8) (l := [(((rd l (j : Int)) / 256) % 256)]) (off := 0) B_g10 ⟨rfl, Nat.le_of_ble_eq_true rfl⟩ rfl) (by omega) (by omega) K_0.kept.1 ?_)
   clear hE a; intro Ao13 co14 w15 O_o' hk hat a hE
   have Nb_o_g4' := grow_n Nb_o_g4 (blk_lt B_g4) hat
   have Nb_o_g10' := grow_n Nb_o_g10 (blk_lt B_g10) hat
   have Z_0_o' := grow_z Z_0_o K_0.kept.1 hat
   replace B_g4 := kp_blk B_g4 hk Nb_o_g4
   replace B_g10 := kp_blk B_g10 hk Nb_o_g10
   replace K_0 := K_0.then_ hk Z_0_o
   replace Nb_o_g4 := Nb_o_g4'
   replace Nb_o_g10 := Nb_o_g10'
   replace Z_0_o := Z_0_o'
   replace O_o : w15.ownsRow _ 5 1 (.slice Ao13 ((n_o + 2) + 1) co14) ((n_o + 2) + 1) (encs (Value.int .u8) (((X ++ putF 4 (l.take j)) ++ [(((rd l (j : Int)) / 16777216) % 256), (((rd l (j : Int)) / 65536) % 256)]) ++ [(((rd l (j : Int)) / 256) % 256)])) := O_o'
   clear O_o' hk hat
   refine q0 (pl P81_11 6) hE (st_assign rfl) ?_; clear hE a; intro a hE
   refine p_nil (x_normB (x_norm (c_reg R81_12_l ?_)))
   refine qn hE (rc (pl P81_12 0) (st_move rfl) (rc (pl P81_12 1) (st_move rfl) (rc (pl P81_12 2) (st_conv (z := ((rd l (j : Int)) % 256)) (by kernel_rfl) Try.underlying5 rfl (IntKind.wrap_u8 _)) rn))) ?_; clear hE a; intro a hE
   refine p_cons (s_row (xs := [(0, Operand.tmp 45)]) (vs := [(0, Value.int .u8 ((rd l (j : Int)) % 256))]) (cs := #[Value.int .u8 ((rd l (j : Int)) % 256)]) (pl P81_12 3) hE wn_none rfl Try.underlying33 rfl (by kernel_rfl) ?_)
   clear hE a; intro g16 w17 z18 B_g16 hk a hE
   have n_g4_g16 : g4 ≠ g16 := ne_new B_g4 z18
   have n_g10_g16 : g10 ≠ g16 := ne_new B_g10 z18
   have z_0_g16 := Nat.le_trans K_0.kept.1 z18
   have Nb_o_g16 : ¬ OB Ao13 g16 := fun h => by have := (own_ob O_o h).2; omega
   replace B_g4 := kp_blk B_g4 hk (fun h => h)
   replace B_g10 := kp_blk B_g10 hk (fun h => h)
   replace O_o := own_keep O_o hk (fun _ _ h => h)
   replace K_0 := K_0.then_ hk (fun _ h => h.elim)
   clear hk
   refine p_cons (s_appendC (xs := (((X ++ putF 4 (l.take j)) ++ [(((rd l (j : Int)) / 16777216) % 256), (((rd l (j : Int)) / 65536) % 256)]) ++ [(((rd l (j : Int)) / 256) % 256)])) (ys := [((rd l (j : Int)) % 256)]) (pl P81_12 4) hE wn_none rfl Try.underlying33 eD5 rfl O_o rfl (C_blk (k := .u8) (l := [((rd l (j : Int)) % 256)]) (off := 0) B_g16 ⟨rfl, Nat.le_of_ble_eq_true rfl⟩ rfl) (by omega) (by omega) K_0.kept.1 ?_)
   clear hE a; intro Ao19 co20 w21 O_o' hk hat a hE
   have Nb_o_g4' := grow_n Nb_o_g4 (blk_lt B_g4) hat
   have Nb_o_g10' := grow_n Nb_o_g10 (blk_lt B_g10) hat
   have Nb_o_g16' := grow_n Nb_o_g16 (blk_lt B_g16) hat
   have Z_0_o' := grow_z Z_0_o K_0.kept.1 hat
   replace B_g4 := kp_blk B_g4 hk Nb_o_g4
   replace B_g10 := kp_blk B_g10 hk Nb_o_g10
   replace B_g16 := kp_blk B_g16 hk Nb_o_g16
   replace K_0 := K_0.then_ hk Z_0_o
   replace Nb_o_g4 := Nb_o_g4'
   replace Nb_o_g10 := Nb_o_g10'
   replace Nb_o_g16 := Nb_o_g16'
   replace Z_0_o := Z_0_o'
   replace O_o : w21.ownsRow _ 5 1 (.slice Ao19 (((n_o + 2) + 1) + 1) co20) (((n_o + 2) + 1) + 1) (encs (Value.int .u8) ((((X ++ putF 4 (l.take j)) ++ [(((rd l (j : Int)) / 16777216) % 256), (((rd l (j : Int)) / 65536) % 256)]) ++ [(((rd l (j : Int)) / 256) % 256)]) ++ [((rd l (j : Int)) % 256)])) := O_o'
   clear O_o' hk hat
   refine q0 (pl P81_12 5) hE (st_assign rfl) ?_; clear hE a; intro a hE
   refine p_nil (x_norm (wp_exit (x_in (x_norm (c_reg R81_13_l ?_)))))
   refine qn hE (rc (pl P81_13 0) (st_move rfl) (rc (pl P81_13 1) (st_len Try.underlying33 rfl) (rc (pl P81_13 2) (st_gtr (b := false) rfl rfl (decide_eq_false (by omega))) rn))) ?_; clear hE a; intro a hE
   refine p_nil (x_norm ?_)
   refine c_cond (t := false) hE rfl ?_
   refine wp_skip (x_normB (x_norm (c_regL R81_15_l ?_)))
   refine qn hE (rc (pl P81_15 0) (st_add (z := (j : Int) + 1) rfl rfl (wr_i64 _ (by omega) (by omega))) (rc (pl P81_15 1) (st_move rfl) rn)) ?_; clear hE a; intro a hE
   refine p_nil (x_norm ?_)
   have e9 : ((((X ++ putF 4 (l.take j)) ++ [(((rd l (j : Int)) / 16777216) % 256), (((rd l (j : Int)) / 65536) % 256)]) ++ [(((rd l (j : Int)) / 256) % 256)]) ++ [((rd l (j : Int)) % 256)]) = (X ++ putF 4 (l.take (j + 1))) := by rw [put_take 4 l j hjl]; simp [digF]
   rw [e9] at O_o
   exact ⟨j + 1, by omega, Ao19, co20, (((n_o + 2) + 1) + 1), En.sub hE ⟨rfl, rfl, rfl, rfl, rfl, rfl, rfl, rfl, trivial⟩, (by omega), (by rw [← e9]; simp only [List.length_append, List.length_cons, List.length_nil, ← hn_o]), O_o, Z_0_o, K_0⟩
  ·
   refine c_reg R81_5_l ?_
   refine q0 p81_5_0 hE (st_lss (b := false) rfl rfl (decide_eq_false hK1)) ?_; clear hE a; intro a hE
   refine p_nil (x_norm (wp_seq ?_))
   refine c_cond (t := false) hE rfl ?_
   refine wp_exit (x_exit (x_exit (x_in (x_norm (wp_seq (c_reg R81_16_l ?_))))))
   have hpl := put_len 4 l j
   have hno : n_o = X.length + (putF 4 (l.take j)).length := by rw [hn_o, List.length_append]
   refine qn hE (rc (pl P81_16 0) (st_move rfl) (rc (pl P81_16 1) (st_len Try.underlying33 rfl) (rc (pl P81_16 2) (st_gtr (b := false) rfl rfl (decide_eq_false (by omega))) rn))) ?_; clear hE a; intro a hE
   refine p_nil (x_norm ?_)
   refine c_cond (t := false) hE rfl ?_
   refine wp_skip (x_norm (c_reg R81_18_l ?_))
   refine qn hE (rc (pl P81_18 0) (st_move rfl) (rc (pl P81_18 1) (st_assign rfl) (rc (pl P81_18 2) (st_assign rfl) rn))) ?_; clear hE a; intro a hE
   refine p_nil (x_norm (wp_ret ?_))
   refine ret_list (rs := [.tmp 6, .tmp 7]) (vs := [Value.slice A_o n_o c_o, Value.int .i64 0]) rfl hE (.tmp rfl (.tmp rfl .nil)) rfl ?_
   obtain rfl : j = l.length := by omega
   rw [List.take_length] at O_o hn_o
   subst hn_o
   exact ⟨_, rfl, O_o, K_0.to (Nat.le_refl _) (fun _ h => h.elim)⟩
theorem tS5 : (Try.prog.info? 5).map (·.size) = some 1 := by kernel_rfl
theorem tA5 : (Try.prog.underlying 5).map aggD = some false := by kernel_rfl
end Go.Proofs.Ytijfocnneccccaa.Pk
