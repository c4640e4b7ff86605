/- Contracts of slices.Grow and slices.Concat over bytes. -/
import Derived.Test.YtijfocnneccccaaDs
import Derived.Test.YtijfocnneccccaaPackPut
set_option maxRecDepth 100000
set_option linter.unusedVariables false
set_option linter.unusedSimpArgs false
namespace Go.Proofs.Ytijfocnneccccaa.Cc
open Go.RowKit Go.Proofs.YtijfocnneccccaaW.PrintWords Go.Proofs.Ytijfocnneccccaa.Ds
open Go.Proofs.Ytijfocnneccccaa.Pk (Kp)
/-- A row of rows of bytes: what its element j holds. -/
theorem C_row {w : World} {A : Option Addr} {n j e : Nat} {ls : List (List Int)} (h : Kd.C (Kd.slice e (Kd.int .u8)) w A n ls) (hj : j < n) : A = some (A.getD default) ∧ ∃ A' c', w.cell? (ea A j) = some (.slice A' (ls.getD j []).length c') ∧ (ls.getD j []).length ≤ c' ∧ Kd.C (Kd.int .u8) w A' (ls.getD j []).length (ls.getD j []) := by
 obtain ⟨ad, c, rfl, hl, hR, hc⟩ := ReadsRow.get_ h ([] : List Int) (j : Int) (by omega) (by omega)
 simp only [Int.toNat_natCast] at hR hc
 obtain ⟨A', c', he, hle, hC⟩ := hR
 refine ⟨rfl, A', c', ?_, hle, hC⟩
 have := hc 0 _ (by rw [he]; rfl)
 simpa [ea, Kd.slice] using this
def tot (ls : List (List Int)) (k : Nat) : Nat := (ls.take k).flatten.length
theorem tot_succ (ls : List (List Int)) (k : Nat) (h : k < ls.length) : tot ls (k + 1) = tot ls k + (ls.getD k []).length := by
 unfold tot
 rw [List.take_succ_eq_append_getElem h]
 simp only [List.flatten_append, List.length_append, List.flatten_cons, List.flatten_nil, List.append_nil, List.getD_eq_getElem?_getD, List.getElem?_eq_getElem h, Option.getD_some]
theorem tot_le (ls : List (List Int)) (k : Nat) : tot ls k ≤ ls.flatten.length := by
 unfold tot
 have := congrArg (fun l : List (List Int) => l.flatten.length) (List.take_append_drop k ls)
 simp only [List.flatten_append, List.length_append] at this
 omega
theorem tot_all (ls : List (List Int)) : tot ls ls.length = ls.flatten.length := by unfold tot; rw [List.take_length]
theorem flat_succ (ls : List (List Int)) (k : Nat) (h : k < ls.length) : (ls.take k).flatten ++ ls.getD k [] = (ls.take (k + 1)).flatten := by
 rw [List.take_succ_eq_append_getElem h]
 simp only [List.flatten_append, List.flatten_cons, List.flatten_nil, List.append_nil, List.getD_eq_getElem?_getD, List.getElem?_eq_getElem h, Option.getD_some]
theorem R107_0_l : List.range (regOf Try.f107 0).size = [0] := by kernel_rfl
theorem R107_1_l : List.range (regOf Try.f107 1).size = [0, 1] := by kernel_rfl
theorem R107_3_l : List.range (regOf Try.f107 3).size = [0, 1, 2, 3, 4, 5, 6, 7] := by kernel_rfl
theorem R107_4_l : List.range (regOf Try.f107 4).size = [0, 1] := by kernel_rfl
theorem R107_5_l : List.range (regOf Try.f107 5).size = [0, 1, 2, 3, 4, 5, 6, 7, 8, 9] := by kernel_rfl
theorem R107_6_l : List.range (regOf Try.f107 6).size = [0, 1] := by kernel_rfl
theorem body107 : Try.f107.body = some (.seq (.region 0 (regOf Try.f107 0) false) (.seq (.seq (.region 1 (regOf Try.f107 1) false) (.cond (Operand.tmp 6) (.region 2 (regOf Try.f107 2) false) (.skip))) (.seq (.seq (.region 3 (regOf Try.f107 3) false) (.seq (.region 4 (regOf Try.f107 4) false) (.cond (Operand.tmp 16) (.region 5 (regOf Try.f107 5) false) (.skip)))) (.seq (.region 6 (regOf Try.f107 6) false) (.ret))))) := by kernel_rfl
theorem p107_0_0 : pj (regOf Try.f107 0) 0 = some (some 4, .assign (.const (.slice none 0 0)), 33, none) := by kernel_rfl
theorem P107_1 : (List.range (regOf Try.f107 1).size).map (pj (regOf Try.f107 1)) = [zz 5 (.move (.tmp 1)) 3, zz 6 (.binOp .lss 3 (.tmp 5) (.const (.int .i64 0)) 3) 4] := by kernel_rfl
theorem P107_3 : (List.range (regOf Try.f107 3).size).map (pj (regOf Try.f107 3)) = [zz 8 (.move (.tmp 1)) 3, zz 9 (.move (.tmp 0)) 33, zz 10 (.call { callee := .builtin .cap, args := #[.tmp 9], argTypes := #[33] }) 3, zz 11 (.move (.tmp 0)) 33, zz 12 (.call { callee := .builtin .len, args := #[.tmp 11], argTypes := #[33] }) 3, zz 13 (.binOp .sub 3 (.tmp 10) (.tmp 12) 3) 3, zz 14 (.binOp .sub 3 (.tmp 8) (.tmp 13) 3) 3, zz 1 (.assign (.tmp 14)) 3] := by kernel_rfl
theorem P107_4 : (List.range (regOf Try.f107 4).size).map (pj (regOf Try.f107 4)) = [zz 15 (.move (.tmp 1)) 3, zz 16 (.binOp .gtr 3 (.tmp 15) (.const (.int .i64 0)) 3) 4] := by kernel_rfl
theorem P107_6 : (List.range (regOf Try.f107 6).size).map (pj (regOf Try.f107 6)) = [zz 26 (.move (.tmp 0)) 33, zz 4 (.assign (.tmp 26)) 33] := by kernel_rfl
theorem P107_5 : (List.range (regOf Try.f107 5).size).map (pj (regOf Try.f107 5)) = [zz 17 (.move (.tmp 0)) 33, zz 18 (.move (.tmp 0)) 33, zz 19 (.call { callee := .builtin .cap, args := #[.tmp 18], argTypes := #[33] }) 3, zz 20 (.slice 33 (.tmp 17) none (some (.tmp 19)) none) 33, zz 21 (.move (.tmp 1)) 3, zz 22 (.call { callee := .builtin .append, args := #[.tmp 20, .tmp 21], argTypes := #[33, 3] }) 33, zz 23 (.move (.tmp 0)) 33, zz 24 (.call { callee := .builtin .len, args := #[.tmp 23], argTypes := #[33] }) 3, zz 25 (.slice 33 (.tmp 22) none (some (.tmp 24)) none) 33, zz 0 (.assign (.tmp 25)) 33] := by kernel_rfl
theorem tS5 : (Try.prog.info? 5).map (·.size) = some 1 := by kernel_rfl
theorem eD5 : elemD Try.prog 5 = some (1, 1, 1) := by kernel_rfl
theorem tZ5 : (Try.prog.info? 5).bind (·.zero) = some (Value.int .u8 0) := by kernel_rfl
set_option maxHeartbeats 2000000 in
theorem grow_none (n : Nat) (hn : n = 0) (hm : n ≤ 140737488355328) (w : World) : Calls Try.prog 107 #[.slice none 0 0, .int .i64 (n : Int)] w fun e w' => ∃ A c, e = .returned (.slice A 0 c) ∧ w'.ownsRow w.heap.size 5 1 (.slice A 0 c) 0 [] ∧ Kp w w' (fun _ => False) ∧ (∀ k, OB A k → w.heap.size ≤ k) := by
 have K_0 := Kp.refl w (fun _ => False)
 subst hn
 refine enter (args := [Value.slice none 0 0, Value.int .i64 0]) (n := 27) Try.func107 body107 rfl rfl rfl ?_
 intro a hE
 refine c_reg R107_0_l ?_
 refine p_cons (s_still p107_0_0 hE wn_none rfl (st_assign rfl) ?_); clear hE a; intro a hE
 refine p_nil (x_norm (wp_seq (c_reg R107_1_l ?_)))
 refine qn hE (rg (pl P107_1 0) wn_none (st_move rfl) (rg (pl P107_1 1) wn_none (st_lss (b := false) rfl rfl (by decide)) rn)) ?_; clear hE a; intro a hE
 refine p_nil (x_norm ?_)
 refine c_cond (t := false) hE rfl ?_
 refine wp_skip (x_norm (wp_seq (c_reg R107_3_l ?_)))
 refine qn hE (rg (pl P107_3 0) wn_none (st_move rfl) (rg (pl P107_3 1) wn_none (st_move rfl) (rg (pl P107_3 2) wn_none (st_cap Try.underlying33 rfl) (rg (pl P107_3 3) wn_none (st_move rfl) (rg (pl P107_3 4) wn_none (st_len Try.underlying33 rfl) (rg (pl P107_3 5) wn_none (st_sub (z := 0) rfl rfl (by decide)) (rg (pl P107_3 6) wn_none (st_sub (z := 0) rfl rfl (by decide)) (rg (pl P107_3 7) wn_none (st_assign rfl) rn)))))))) ?_; clear hE a; intro a hE
 refine p_nil (x_norm (c_reg R107_4_l ?_))
 refine qn hE (rg (pl P107_4 0) wn_none (st_move rfl) (rg (pl P107_4 1) wn_none (st_gtr (b := false) rfl rfl (by decide)) rn)) ?_; clear hE a; intro a hE
 refine p_nil (x_norm ?_)
 refine c_cond (t := false) hE rfl ?_
 refine wp_skip (x_norm (c_reg R107_6_l ?_))
 refine qn hE (rg (pl P107_6 0) wn_none (st_move rfl) (rg (pl P107_6 1) wn_none (st_assign rfl) rn)) ?_; clear hE a; intro a hE
 refine p_nil (x_norm (wp_ret ?_))
 refine ret_one (v := Value.slice none 0 0) rfl hE (.tmp rfl .nil) ?_
 exact ⟨none, 0, rfl, own_none _ _ _ _, K_0, fun k h => absurd h ob_nil⟩
set_option maxHeartbeats 2000000 in
theorem grow_some (n : Nat) (hn : 0 < n) (hm : n ≤ 140737488355328) (w : World) : Calls Try.prog 107 #[.slice none 0 0, .int .i64 (n : Int)] w fun e w' => ∃ A c, e = .returned (.slice A 0 c) ∧ w'.ownsRow w.heap.size 5 1 (.slice A 0 c) 0 [] ∧ Kp w w' (fun _ => False) ∧ (∀ k, OB A k → w.heap.size ≤ k) := by
 have K_0 := Kp.refl w (fun _ => False)
 refine enter (args := [Value.slice none 0 0, Value.int .i64 (n : Int)]) (n := 27) Try.func107 body107 rfl rfl rfl ?_
 intro a hE
 refine c_reg R107_0_l ?_
 refine p_cons (s_still p107_0_0 hE wn_none rfl (st_assign rfl) ?_); clear hE a; intro a hE
 refine p_nil (x_norm (wp_seq (c_reg R107_1_l ?_)))
 refine qn hE (rg (pl P107_1 0) wn_none (st_move rfl) (rg (pl P107_1 1) wn_none (st_lss (b := false) rfl rfl (decide_eq_false (by omega))) rn)) ?_; clear hE a; intro a hE
 refine p_nil (x_norm ?_)
 refine c_cond (t := false) hE rfl ?_
 refine wp_skip (x_norm (wp_seq (c_reg R107_3_l ?_)))
 refine qn hE (rg (pl P107_3 0) wn_none (st_move rfl) (rg (pl P107_3 1) wn_none (st_move rfl) (rg (pl P107_3 2) wn_none (st_cap Try.underlying33 rfl) (rg (pl P107_3 3) wn_none (st_move rfl) (rg (pl P107_3 4) wn_none (st_len Try.underlying33 rfl) (rg (pl P107_3 5) wn_none (st_sub (z := 0) rfl rfl (by decide)) (rg (pl P107_3 6) wn_none (st_sub (z := (n : Int)) rfl rfl (by rw [Int.sub_zero]; exact wr_i64 _ (by omega) (by omega))) (rg (pl P107_3 7) wn_none (st_assign rfl) rn)))))))) ?_; clear hE a; intro a hE
 refine p_nil (x_norm (c_reg R107_4_l ?_))
 refine qn hE (rg (pl P107_4 0) wn_none (st_move rfl) (rg (pl P107_4 1) wn_none (st_gtr (b := true) rfl rfl (decide_eq_true (by omega))) rn)) ?_; clear hE a; intro a hE
 refine p_nil (x_norm ?_)
 refine c_cond (t := true) hE rfl ?_
 refine c_regL R107_5_l ?_
 refine qn hE (rg (pl P107_5 0) wn_none (st_move rfl) (rg (pl P107_5 1) wn_none (st_move rfl) (rg (pl P107_5 2) wn_none (st_cap Try.underlying33 rfl) (rg (pl P107_5 3) wn_none (st_sliceH (h := 0) Try.underlying33 tS5 rfl rfl (by decide)) (rg (pl P107_5 4) wn_none (st_move rfl) rn))))) ?_; clear hE a; intro a hE
 refine p_cons (s_appendZ (q := n) (pl P107_5 5) hE wn_none rfl Try.underlying33 Try.underlying3 tZ5 eD5 rfl rfl (by omega) (by omega) (by decide) w.heap.size (Nat.le_refl _) ?_)
 clear hE a; rintro A1 c1 w1 ⟨xs, O_1⟩ hk hat a hE
 replace K_0 := K_0.then_ hk (fun _ h => h.elim)
 have Ob := hat
 clear hk hat
 refine qn hE (rg (pl P107_5 6) wn_none (st_move rfl) (rg (pl P107_5 7) wn_none (st_len Try.underlying33 rfl) (rg (pl P107_5 8) wn_none (st_sliceH (h := 0) Try.underlying33 tS5 rfl rfl (by omega)) (rg (pl P107_5 9) wn_none (st_assign rfl) rn)))) ?_; clear hE a; intro a hE
 refine p_nil (x_norm (c_reg R107_6_l ?_))
 refine qn hE (rg (pl P107_6 0) wn_none (st_move rfl) (rg (pl P107_6 1) wn_none (st_assign rfl) rn)) ?_; clear hE a; intro a hE
 refine p_nil (x_norm (wp_ret ?_))
 refine ret_one (v := Value.slice A1 0 c1) rfl hE (.tmp rfl .nil) ?_
 exact ⟨A1, c1, rfl, by have := own_cut (h := 0) O_1 (Nat.zero_le _); rwa [List.take_zero] at this, K_0, Ob⟩
theorem grow_any (n : Nat) (hm : n ≤ 140737488355328) (w : World) : Calls Try.prog 107 #[.slice none 0 0, .int .i64 (n : Int)] w fun e w' => ∃ A c, e = .returned (.slice A 0 c) ∧ w'.ownsRow w.heap.size 5 1 (.slice A 0 c) 0 [] ∧ Kp w w' (fun _ => False) ∧ (∀ k, OB A k → w.heap.size ≤ k) := by
 by_cases h : n = 0
 · exact grow_none n h hm w
 · exact grow_some n (by omega) hm w
theorem R70_0_l : List.range (regOf Try.f70 0).size = [0] := by kernel_rfl
theorem R70_1_l : List.range (regOf Try.f70 1).size = [0] := by kernel_rfl
theorem R70_2_l : List.range (regOf Try.f70 2).size = [0, 1, 2] := by kernel_rfl
theorem R70_3_l : List.range (regOf Try.f70 3).size = [0] := by kernel_rfl
theorem R70_4_l : List.range (regOf Try.f70 4).size = [0, 1, 2] := by kernel_rfl
theorem R70_5_l : List.range (regOf Try.f70 5).size = [0, 1, 2, 3, 4] := by kernel_rfl
theorem R70_6_l : List.range (regOf Try.f70 6).size = [0, 1] := by kernel_rfl
theorem R70_8_l : List.range (regOf Try.f70 8).size = [0, 1] := by kernel_rfl
theorem R70_9_l : List.range (regOf Try.f70 9).size = [0, 1, 2] := by kernel_rfl
theorem R70_10_l : List.range (regOf Try.f70 10).size = [0, 1, 2] := by kernel_rfl
theorem R70_11_l : List.range (regOf Try.f70 11).size = [0] := by kernel_rfl
theorem R70_12_l : List.range (regOf Try.f70 12).size = [0, 1, 2] := by kernel_rfl
theorem R70_13_l : List.range (regOf Try.f70 13).size = [0, 1, 2, 3] := by kernel_rfl
theorem R70_14_l : List.range (regOf Try.f70 14).size = [0, 1] := by kernel_rfl
theorem R70_15_l : List.range (regOf Try.f70 15).size = [0, 1] := by kernel_rfl
theorem body70 : Try.f70.body = some (.seq (.region 0 (regOf Try.f70 0) false) (.seq (.region 1 (regOf Try.f70 1) false) (.seq (.seq (.region 2 (regOf Try.f70 2) false) (.block 0 (.loop (.seq (.region 3 (regOf Try.f70 3) false) (.seq (.cond (Operand.tmp 12) (.skip) (.exit 0)) (.seq (.block 1 (.seq (.region 4 (regOf Try.f70 4) false) (.seq (.region 5 (regOf Try.f70 5) false) (.seq (.region 6 (regOf Try.f70 6) false) (.cond (Operand.tmp 20) (.region 7 (regOf Try.f70 7) false) (.skip)))))) (.region 8 (regOf Try.f70 8) false))))))) (.seq (.region 9 (regOf Try.f70 9) false) (.seq (.seq (.region 10 (regOf Try.f70 10) false) (.block 2 (.loop (.seq (.region 11 (regOf Try.f70 11) false) (.seq (.cond (Operand.tmp 28) (.skip) (.exit 2)) (.seq (.block 3 (.seq (.region 12 (regOf Try.f70 12) false) (.region 13 (regOf Try.f70 13) false))) (.region 14 (regOf Try.f70 14) false))))))) (.seq (.region 15 (regOf Try.f70 15) false) (.ret))))))) := by kernel_rfl
theorem p70_0_0 : pj (regOf Try.f70 0) 0 = some (some 2, .assign (.const (.slice none 0 0)), 33, none) := by kernel_rfl
theorem p70_1_0 : pj (regOf Try.f70 1) 0 = some (some 3, .assign (.const (.int .i64 0)), 3, none) := by kernel_rfl
theorem P70_2 : (List.range (regOf Try.f70 2).size).map (pj (regOf Try.f70 2)) = [zz 9 (.move (.tmp 0)) 86, zz 10 (.call { callee := .builtin .len, args := #[.tmp 9], argTypes := #[86] }) 3, zz 11 (.move (.const (.int .i64 0))) 3] := by kernel_rfl
theorem p70_3_0 : pj (regOf Try.f70 3) 0 = some (some 12, .binOp .lss 3 (.tmp 11) (.tmp 10) 3, 0, none) := by kernel_rfl
theorem P70_4 : (List.range (regOf Try.f70 4).size).map (pj (regOf Try.f70 4)) = [zz 13 (.indexAddr 86 (.tmp 9) (.tmp 11)) 0, zz 14 (.load 33 (.tmp 13)) 33, zz 5 (.assign (.tmp 14)) 33] := by kernel_rfl
theorem tS33 : (Try.prog.info? 33).map (·.size) = some 1 := by kernel_rfl
theorem tA33 : (Try.prog.underlying 33).map aggD = some false := by kernel_rfl
theorem P70_5 : (List.range (regOf Try.f70 5).size).map (pj (regOf Try.f70 5)) = [zz 15 (.move (.tmp 3)) 3, zz 16 (.move (.tmp 5)) 33, zz 17 (.call { callee := .builtin .len, args := #[.tmp 16], argTypes := #[33] }) 3, zz 18 (.binOp .add 3 (.tmp 15) (.tmp 17) 3) 3, zz 3 (.assign (.tmp 18)) 3] := by kernel_rfl
theorem P70_6 : (List.range (regOf Try.f70 6).size).map (pj (regOf Try.f70 6)) = [zz 19 (.move (.tmp 3)) 3, zz 20 (.binOp .lss 3 (.tmp 19) (.const (.int .i64 0)) 3) 4] := by kernel_rfl
theorem P70_8 : (List.range (regOf Try.f70 8).size).map (pj (regOf Try.f70 8)) = [zz 22 (.binOp .add 3 (.tmp 11) (.const (.int .i64 1)) 3) 3, zz 11 (.move (.tmp 22)) 3] := by kernel_rfl
theorem P70_9 : (List.range (regOf Try.f70 9).size).map (pj (regOf Try.f70 9)) = [zz 23 (.move (.tmp 3)) 3, zz 24 (.call { callee := .value (.func 107), args := #[.const (.slice none 0 0), .tmp 23], argTypes := #[33, 3] }) 33, zz 6 (.assign (.tmp 24)) 33] := by kernel_rfl
theorem cl107 : callable Try.f107 = true := by kernel_rfl
theorem P70_10 : (List.range (regOf Try.f70 10).size).map (pj (regOf Try.f70 10)) = [zz 25 (.move (.tmp 0)) 86, zz 26 (.call { callee := .builtin .len, args := #[.tmp 25], argTypes := #[86] }) 3, zz 27 (.move (.const (.int .i64 0))) 3] := by kernel_rfl
theorem p70_11_0 : pj (regOf Try.f70 11) 0 = some (some 28, .binOp .lss 3 (.tmp 27) (.tmp 26) 3, 0, none) := by kernel_rfl
theorem P70_12 : (List.range (regOf Try.f70 12).size).map (pj (regOf Try.f70 12)) = [zz 29 (.indexAddr 86 (.tmp 25) (.tmp 27)) 0, zz 30 (.load 33 (.tmp 29)) 33, zz 8 (.assign (.tmp 30)) 33] := by kernel_rfl
theorem P70_13 : (List.range (regOf Try.f70 13).size).map (pj (regOf Try.f70 13)) = [zz 31 (.move (.tmp 6)) 33, zz 32 (.move (.tmp 8)) 33, zz 33 (.call { callee := .builtin .append, args := #[.tmp 31, .tmp 32], argTypes := #[33, 33] }) 33, zz 6 (.assign (.tmp 33)) 33] := by kernel_rfl
theorem P70_14 : (List.range (regOf Try.f70 14).size).map (pj (regOf Try.f70 14)) = [zz 34 (.binOp .add 3 (.tmp 27) (.const (.int .i64 1)) 3) 3, zz 27 (.move (.tmp 34)) 3] := by kernel_rfl
theorem P70_15 : (List.range (regOf Try.f70 15).size).map (pj (regOf Try.f70 15)) = [zz 35 (.move (.tmp 6)) 33, zz 2 (.assign (.tmp 35)) 33] := by kernel_rfl
set_option maxHeartbeats 4000000 in
theorem concat_any (A : Option Addr) (n c : Nat) (ls : List (List Int)) (hn : n = ls.length) (w : World) (h : Kd.C (Kd.slice 5 (Kd.int .u8)) w A ls.length ls) (hc : ls.length ≤ c) (hm : ls.flatten.length ≤ 70368744177664) (hml : ls.length ≤ 70368744177664) : Calls Try.prog 70 #[.slice A n c] w fun e w' => ∃ A' c', e = .returned (.slice A' ls.flatten.length c') ∧ w'.ownsRow w.heap.size 5 1 (.slice A' ls.flatten.length c') ls.flatten.length (encs (Value.int .u8) ls.flatten) ∧ Kp w w' (fun _ => False) := by
 have K_0 := Kp.refl w (fun _ => False)
 subst hn
 have F_ls : ∀ W', Kp w W' (fun _ => False) → Kd.C (Kd.slice 5 (Kd.int .u8)) W' A ls.length ls := fun W' hk => Kd.C_below h (hk.to (Nat.le_refl _) (fun _ h => h.elim))
 refine enter (args := [Value.slice A ls.length c]) (n := 36) Try.func70 body70 rfl rfl rfl ?_
 intro a hE
 refine c_reg R70_0_l ?_
 refine p_cons (s_still p70_0_0 hE wn_none rfl (st_assign rfl) ?_); clear hE a; intro a hE
 refine p_nil (x_norm (c_reg R70_1_l ?_))
 refine p_cons (s_still p70_1_0 hE wn_none rfl (st_assign rfl) ?_); clear hE a; intro a hE
 refine p_nil (x_norm (wp_seq (c_reg R70_2_l ?_)))
 refine qn hE (rg (pl P70_2 0) wn_none (st_move rfl) (rg (pl P70_2 1) wn_none (st_len Try.underlying86 rfl) (rg (pl P70_2 2) wn_none (st_move rfl) rn))) ?_; clear hE a; intro a hE
 refine p_nil (x_norm (wp_block ?_))
 refine c_loop (α := Nat) (fun k a W => En 36 a [(0, Value.slice A ls.length c), (2, Value.slice none 0 0), (9, Value.slice A ls.length c), (10, Value.int .i64 (ls.length : Int)), (3, Value.int .i64 (tot ls k : Int)), (11, Value.int .i64 (k : Int))] ∧ k ≤ ls.length ∧ Kp w W (fun _ => False)) (fun k => ls.length - k) (0) ?_ ?_
 ·
  exact ⟨En.sub hE ⟨rfl, rfl, rfl, rfl, rfl, rfl, trivial⟩, Nat.zero_le _, K_0⟩
 ·
  clear hE a
  rintro k a w1 ⟨hE, hk9, K_0⟩
  refine c_reg R70_3_l ?_
  rcases Decidable.em ((k : Int) < (ls.length : Int)) with hc2 | hc2
  ·
   refine p_cons (s_still (v := Value.bool true) p70_3_0 hE wn_none rfl (st_lss rfl rfl (decide_eq_true hc2)) ?_); clear hE a; intro a hE
   refine p_nil (x_norm (wp_seq ?_))
   refine c_cond (t := true) hE rfl ?_
   refine wp_skip (x_norm (wp_seq (wp_block (c_reg R70_4_l ?_))))
   refine p_cons (s_still (pl P70_4 0) hE wn_none rfl (st_indexAddrS (i := k) Try.underlying86 tS33 (C_row (F_ls _ K_0) (show k < ls.length by omega)).1 rfl rfl (by omega)) ?_); clear hE a; intro a hE
   obtain ⟨_, A3, cA3, hcl, hleA3, hCA3⟩ := C_row (F_ls _ K_0) (show k < ls.length by omega)
   refine qn hE (rg (pl P70_4 1) wn_none (st_load1 tA33 rfl hcl) (rg (pl P70_4 2) wn_none (st_assign rfl) rn)) ?_; clear hE a; intro a hE
   refine p_nil (x_norm (c_reg R70_5_l ?_))
   refine qn hE (rg (pl P70_5 0) wn_none (st_move rfl) (rg (pl P70_5 1) wn_none (st_move rfl) (rg (pl P70_5 2) wn_none (st_len Try.underlying33 rfl) (rg (pl P70_5 3) wn_none (st_add (z := (tot ls (k + 1) : Int)) rfl rfl (by rw [tot_succ ls k (by omega)]; exact wr_i64 _ (by omega) (by have := tot_succ ls k (by omega); have := tot_le ls (k + 1); omega))) (rg (pl P70_5 4) wn_none (st_assign rfl) rn))))) ?_; clear hE a; intro a hE
   refine p_nil (x_norm (c_reg R70_6_l ?_))
   refine qn hE (rg (pl P70_6 0) wn_none (st_move rfl) (rg (pl P70_6 1) wn_none (st_lss (b := false) rfl rfl (decide_eq_false (by omega))) rn)) ?_; clear hE a; intro a hE
   refine p_nil (x_norm ?_)
   refine c_cond (t := false) hE rfl ?_
   refine wp_skip (x_normB (x_norm (c_regL R70_8_l ?_)))
   refine qn hE (rg (pl P70_8 0) wn_none (st_add (z := ((k + 1 : Nat) : Int)) rfl rfl (wr_i64 _ (by omega) (by omega))) (rg (pl P70_8 1) wn_none (st_move rfl) rn)) ?_; clear hE a; intro a hE
   refine p_nil (x_norm ?_)
   exact ⟨k + 1, by omega, En.sub hE ⟨rfl, rfl, rfl, rfl, rfl, rfl, trivial⟩, by omega, K_0⟩
  ·
   refine p_cons (s_still (v := Value.bool false) p70_3_0 hE wn_none rfl (st_lss rfl rfl (decide_eq_false hc2)) ?_); clear hE a; intro a hE
   refine p_nil (x_norm (wp_seq ?_))
   refine c_cond (t := false) hE rfl ?_
   refine wp_exit (x_exit (x_exit ?_))
   obtain rfl : k = ls.length := by omega
   refine x_in (x_norm (c_reg R70_9_l ?_))
   refine p_cons (s_still (pl P70_9 0) hE wn_none rfl (st_move rfl) ?_); clear hE a; intro a hE
   have hw9 := K_0.kept.1
   refine p_cons (s_call (xs := [Operand.const (Value.slice none 0 0), Operand.tmp 23]) (args := [Value.slice none 0 0, Value.int .i64 (tot ls ls.length : Int)]) (pl P70_9 1) hE wn_none rfl rfl Try.func107 cl107 (grow_any (tot ls ls.length) (by have := tot_le ls ls.length; omega) _) ?_)
   rintro e w4 ⟨A1, c1, rfl, O_out, hk, hat⟩
   replace O_out := own_lower O_out hw9
   replace K_0 := K_0.then_ hk (fun _ h => h.elim)
   have Z_0_out : ∀ k, OB A1 k → (fun _ => False) k ∨ w.heap.size ≤ k := fun k h => .inr (by have := hat k h; have := hw9; omega)
   refine ⟨_, rfl, ?_⟩; clear hE a; intro a hE
   refine p_cons (s_still (pl P70_9 2) hE wn_none rfl (st_assign rfl) ?_); clear hE a; intro a hE
   refine p_nil (x_norm (wp_seq (c_reg R70_10_l ?_)))
   refine qn hE (rg (pl P70_10 0) wn_none (st_move rfl) (rg (pl P70_10 1) wn_none (st_len Try.underlying86 rfl) (rg (pl P70_10 2) wn_none (st_move rfl) rn))) ?_; clear hE a; intro a hE
   refine p_nil (x_norm (wp_block ?_))
   refine c_loop (α := Nat) (fun k a W => ∃ (A_out : Option Addr) (c_out : Nat) (n_out : Nat), En 36 a [(0, Value.slice A ls.length c), (2, Value.slice none 0 0), (9, Value.slice A ls.length c), (10, Value.int .i64 (ls.length : Int)), (3, Value.int .i64 (tot ls ls.length : Int)), (11, Value.int .i64 (ls.length : Int)), (12, Value.bool false), (25, Value.slice A ls.length c), (26, Value.int .i64 (ls.length : Int)), (6, Value.slice A_out n_out c_out), (27, Value.int .i64 (k : Int))] ∧ k ≤ ls.length ∧ n_out = tot ls k ∧ n_out = ((ls.take k).flatten).length ∧ W.ownsRow w.heap.size 5 1 (.slice A_out n_out c_out) n_out (encs (Value.int .u8) ((ls.take k).flatten)) ∧ (∀ k, OB A_out k → (fun _ => False) k ∨ w.heap.size ≤ k) ∧ Kp w W (fun _ => False)) (fun k => ls.length - k) (0) ?_ ?_
   ·
    exact ⟨A1, c1, 0, En.sub hE ⟨rfl, rfl, rfl, rfl, rfl, rfl, rfl, rfl, rfl, rfl, rfl, trivial⟩, Nat.zero_le _, rfl, rfl, O_out, Z_0_out, K_0⟩
   ·
    clear hE a
    rintro k a w5 ⟨A_out, c_out, n_out, hE, hk9, hn9, hn_out, O_out, Z_0_out, K_0⟩
    have htk := tot_le ls k
    have htk1 := tot_le ls (k + 1)
    have hts : k < ls.length → tot ls (k + 1) = tot ls k + (ls.getD k []).length := tot_succ ls k
    refine c_reg R70_11_l ?_
    rcases Decidable.em ((k : Int) < (ls.length : Int)) with hc6 | hc6
    ·
     refine p_cons (s_still (v := Value.bool true) p70_11_0 hE wn_none rfl (st_lss rfl rfl (decide_eq_true hc6)) ?_); clear hE a; intro a hE
     refine p_nil (x_norm (wp_seq ?_))
     refine c_cond (t := true) hE rfl ?_
     refine wp_skip (x_norm (wp_seq (wp_block (c_reg R70_12_l ?_))))
     refine p_cons (s_still (pl P70_12 0) hE wn_none rfl (st_indexAddrS (i := k) Try.underlying86 tS33 (C_row (F_ls _ K_0) (show k < ls.length by omega)).1 rfl rfl (by omega)) ?_); clear hE a; intro a hE
     obtain ⟨_, A7, cA7, hcl, hleA7, hCA7⟩ := C_row (F_ls _ K_0) (show k < ls.length by omega)
     refine qn hE (rg (pl P70_12 1) wn_none (st_load1 tA33 rfl hcl) (rg (pl P70_12 2) wn_none (st_assign rfl) rn)) ?_; clear hE a; intro a hE
     refine p_nil (x_norm (c_regL R70_13_l ?_))
     refine qn hE (rg (pl P70_13 0) wn_none (st_move rfl) (rg (pl P70_13 1) wn_none (st_move rfl) rn)) ?_; clear hE a; intro a hE
     refine p_cons (s_appendC (xs := (ls.take k).flatten) (ys := (ls.getD k [])) (pl P70_13 2) hE wn_none rfl Try.underlying33 eD5 rfl O_out rfl hCA7 (by omega) (by omega) K_0.kept.1 ?_)
     clear hE a; intro Aout8 cout9 w10 O_out' hk hat a hE
     have Z_0_out' := grow_z Z_0_out K_0.kept.1 hat
     replace K_0 := K_0.then_ hk Z_0_out
     replace Z_0_out := Z_0_out'
     replace O_out : w10.ownsRow _ 5 1 (.slice Aout8 (n_out + (ls.getD k []).length) cout9) (n_out + (ls.getD k []).length) (encs (Value.int .u8) ((ls.take k).flatten ++ (ls.getD k []))) := O_out'
     clear O_out' hk hat
     refine p_cons (s_still (pl P70_13 3) hE wn_none rfl (st_assign rfl) ?_); clear hE a; intro a hE
     refine p_nil (x_normB (x_norm (c_regL R70_14_l ?_)))
     refine qn hE (rg (pl P70_14 0) wn_none (st_add (z := ((k + 1 : Nat) : Int)) rfl rfl (wr_i64 _ (by omega) (by omega))) (rg (pl P70_14 1) wn_none (st_move rfl) rn)) ?_; clear hE a; intro a hE
     refine p_nil (x_norm ?_)
     rw [flat_succ ls k (by omega)] at O_out
     exact ⟨k + 1, by omega, Aout8, cout9, (n_out + (ls.getD k []).length), En.sub hE ⟨rfl, rfl, rfl, rfl, rfl, rfl, rfl, rfl, rfl, rfl, rfl, trivial⟩, by omega, by rw [tot_succ ls k (by omega), hn9], by rw [hn9]; exact (tot_succ ls k (by omega)).symm, O_out, Z_0_out, K_0⟩
    ·
     refine p_cons (s_still (v := Value.bool false) p70_11_0 hE wn_none rfl (st_lss rfl rfl (decide_eq_false hc6)) ?_); clear hE a; intro a hE
     refine p_nil (x_norm (wp_seq ?_))
     refine c_cond (t := false) hE rfl ?_
     refine wp_exit (x_exit (x_exit ?_))
     obtain rfl : k = ls.length := by omega
     refine x_in (x_norm (c_reg R70_15_l ?_))
     refine qn hE (rg (pl P70_15 0) wn_none (st_move rfl) (rg (pl P70_15 1) wn_none (st_assign rfl) rn)) ?_; clear hE a; intro a hE
     refine p_nil (x_norm (wp_ret ?_))
     refine ret_one (v := Value.slice A_out n_out c_out) rfl hE (.tmp rfl .nil) ?_
     have e1 := tot_all ls
     have e2 : n_out = ls.flatten.length := by omega
     subst e2
     rw [List.take_length] at O_out
     exact ⟨_, _, rfl, O_out, K_0⟩
end Go.Proofs.Ytijfocnneccccaa.Cc
