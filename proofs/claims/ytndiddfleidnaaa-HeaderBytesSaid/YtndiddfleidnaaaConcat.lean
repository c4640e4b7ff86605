/- Contracts of slices.Grow and slices.Concat over bytes. -/
import Derived.Test.YtndiddfleidnaaaDs
import Derived.Test.YtndiddfleidnaaaPackPut
set_option maxRecDepth 100000
set_option linter.unusedVariables false
set_option linter.unusedSimpArgs false
namespace Go.Proofs.Ytndiddfleidnaaa.Cc
open Go.RowKit Go.Proofs.YtndiddfleidnaaaW.PrintWords Go.Proofs.Ytndiddfleidnaaa.Ds
open Go.Proofs.Ytndiddfleidnaaa.Pk (Kp)
/-- A row of rows of bytes: what its element j holds. -/
theorem C_row {w : World} {A : Option Addr} {n j e : Nat} {ls : List (List Int)} (h : Kd.C (Kd.slice e (Kd.int .u8)) w A n ls) (hj : j < n) : A = some (A.getD default) ∧ ∃ A' c', w.cell? (ea A j) = some (.slice A' (ls.getD j []).length c') ∧ (ls.getD j []).length ≤ c' ∧ Kd.C (Kd.int .u8) w A' (ls.getD j []).length (ls.getD j []) := by
  obtain ⟨ad, c, rfl, hl, hR, hc⟩ := ReadsRow.get_ h ([] : List Int) (j : Int) (by omega) (by omega)
  simp only [Int.toNat_natCast] at hR hc
  obtain ⟨A', c', he, hle, hC⟩ := hR
  refine ⟨rfl, A', c', ?_, hle, hC⟩
  have := hc 0 _ (by rw [he]; rfl)
  simpa [ea, Kd.slice] using this
def tot (ls : List (List Int)) (k : Nat) : Nat := (ls.take k).flatten.length
theorem tot_succ (ls : List (List Int)) (k : Nat) (h : k < ls.length) : tot ls (k + 1) = tot ls k + (ls.getD k []).length := by
  unfold tot
  rw [List.take_succ_eq_append_getElem h]
  simp only [List.flatten_append, List.length_append, List.flatten_cons, List.flatten_nil, List.append_nil, List.getD_eq_getElem?_getD, List.getElem?_eq_getElem h, Option.getD_some]
theorem tot_le (ls : List (List Int)) (k : Nat) : tot ls k ≤ ls.flatten.length := by
  unfold tot
  have := congrArg (fun l : List (List Int) => l.flatten.length) (List.take_append_drop k ls)
  simp only [List.flatten_append, List.length_append] at this
  omega
theorem tot_all (ls : List (List Int)) : tot ls ls.length = ls.flatten.length := by unfold tot; rw [List.take_length]
theorem flat_succ (ls : List (List Int)) (k : Nat) (h : k < ls.length) : (ls.take k).flatten ++ ls.getD k [] = (ls.take (k + 1)).flatten := by
  rw [List.take_succ_eq_append_getElem h]
  simp only [List.flatten_append, List.flatten_cons, List.flatten_nil, List.append_nil, List.getD_eq_getElem?_getD, List.getElem?_eq_getElem h, Option.getD_some]
theorem R122_0_l : List.range (regOf Try.f122 0).size = [0] := by kernel_rfl
theorem R122_1_l : List.range (regOf Try.f122 1).size = [0, 1] := by kernel_rfl
theorem R122_2_l : List.range (regOf Try.f122 2).size = [0, 1] := by kernel_rfl
theorem R122_3_l : List.range (regOf Try.f122 3).size = [0, 1, 2, 3, 4, 5, 6, 7] := by kernel_rfl
theorem R122_4_l : List.range (regOf Try.f122 4).size = [0, 1] := by kernel_rfl
theorem R122_5_l : List.range (regOf Try.f122 5).size = [0, 1, 2, 3, 4, 5, 6, 7, 8, 9] := by kernel_rfl
theorem R122_6_l : List.range (regOf Try.f122 6).size = [0, 1] := by kernel_rfl
theorem body122 : Try.f122.body = some (.seq (.region 0 (regOf Try.f122 0) false) (.seq (.seq (.region 1 (regOf Try.f122 1) false) (.cond (Operand.tmp 6) (.region 2 (regOf Try.f122 2) false) (.skip))) (.seq (.seq (.region 3 (regOf Try.f122 3) false) (.seq (.region 4 (regOf Try.f122 4) false) (.cond (Operand.tmp 16) (.region 5 (regOf Try.f122 5) false) (.skip)))) (.seq (.region 6 (regOf Try.f122 6) false) (.ret))))) := by kernel_rfl
theorem p122_0_0 : pj (regOf Try.f122 0) 0 = some (some 4, Op.assign (Operand.const (Value.slice none 0 0)), 36, none) := by kernel_rfl
theorem p122_1_0 : pj (regOf Try.f122 1) 0 = some (some 5, Op.move (Operand.tmp 1), 3, none) := by kernel_rfl
theorem p122_1_1 : pj (regOf Try.f122 1) 1 = some (some 6, Op.binOp BinOp.lss 3 (Operand.tmp 5) (Operand.const (Value.int IntKind.i64 0)) 3, 4, none) := by kernel_rfl
theorem p122_3_0 : pj (regOf Try.f122 3) 0 = some (some 8, Op.move (Operand.tmp 1), 3, none) := by kernel_rfl
theorem p122_3_1 : pj (regOf Try.f122 3) 1 = some (some 9, Op.move (Operand.tmp 0), 36, none) := by kernel_rfl
theorem p122_3_2 : pj (regOf Try.f122 3) 2 = some (some 10, Op.call { callee := Callee.builtin Builtin.cap, args := #[Operand.tmp 9], argTypes := #[36] }, 3, none) := by kernel_rfl
theorem p122_3_3 : pj (regOf Try.f122 3) 3 = some (some 11, Op.move (Operand.tmp 0), 36, none) := by kernel_rfl
theorem p122_3_4 : pj (regOf Try.f122 3) 4 = some (some 12, Op.call { callee := Callee.builtin Builtin.len, args := #[Operand.tmp 11], argTypes := #[36] }, 3, none) := by kernel_rfl
theorem p122_3_5 : pj (regOf Try.f122 3) 5 = some (some 13, Op.binOp BinOp.sub 3 (Operand.tmp 10) (Operand.tmp 12) 3, 3, none) := by kernel_rfl
theorem p122_3_6 : pj (regOf Try.f122 3) 6 = some (some 14, Op.binOp BinOp.sub 3 (Operand.tmp 8) (Operand.tmp 13) 3, 3, none) := by kernel_rfl
theorem p122_3_7 : pj (regOf Try.f122 3) 7 = some (some 1, Op.assign (Operand.tmp 14), 3, none) := by kernel_rfl
theorem p122_4_0 : pj (regOf Try.f122 4) 0 = some (some 15, Op.move (Operand.tmp 1), 3, none) := by kernel_rfl
theorem p122_4_1 : pj (regOf Try.f122 4) 1 = some (some 16, Op.binOp BinOp.gtr 3 (Operand.tmp 15) (Operand.const (Value.int IntKind.i64 0)) 3, 4, none) := by kernel_rfl
theorem p122_6_0 : pj (regOf Try.f122 6) 0 = some (some 26, Op.move (Operand.tmp 0), 36, none) := by kernel_rfl
theorem p122_6_1 : pj (regOf Try.f122 6) 1 = some (some 4, Op.assign (Operand.tmp 26), 36, none) := by kernel_rfl
theorem p122_5_0 : pj (regOf Try.f122 5) 0 = some (some 17, Op.move (Operand.tmp 0), 36, none) := by kernel_rfl
theorem p122_5_1 : pj (regOf Try.f122 5) 1 = some (some 18, Op.move (Operand.tmp 0), 36, none) := by kernel_rfl
theorem p122_5_2 : pj (regOf Try.f122 5) 2 = some (some 19, Op.call { callee := Callee.builtin Builtin.cap, args := #[Operand.tmp 18], argTypes := #[36] }, 3, none) := by kernel_rfl
theorem p122_5_3 : pj (regOf Try.f122 5) 3 = some (some 20, Op.slice 36 (Operand.tmp 17) none (some (Operand.tmp 19)) none, 36, none) := by kernel_rfl
theorem tS5 : (Try.prog.info? 5).map (·.size) = some 1 := by kernel_rfl
theorem p122_5_4 : pj (regOf Try.f122 5) 4 = some (some 21, Op.move (Operand.tmp 1), 3, none) := by kernel_rfl
theorem p122_5_5 : pj (regOf Try.f122 5) 5 = some (some 22, Op.call { callee := Callee.builtin Builtin.append, args := #[Operand.tmp 20, Operand.tmp 21], argTypes := #[36, 3] }, 36, none) := by kernel_rfl
theorem eD5 : elemD Try.prog 5 = some (1, 1, 1) := by kernel_rfl
theorem tZ5 : (Try.prog.info? 5).bind (·.zero) = some (Value.int .u8 0) := by kernel_rfl
theorem p122_5_6 : pj (regOf Try.f122 5) 6 = some (some 23, Op.move (Operand.tmp 0), 36, none) := by kernel_rfl
theorem p122_5_7 : pj (regOf Try.f122 5) 7 = some (some 24, Op.call { callee := Callee.builtin Builtin.len, args := #[Operand.tmp 23], argTypes := #[36] }, 3, none) := by kernel_rfl
theorem p122_5_8 : pj (regOf Try.f122 5) 8 = some (some 25, Op.slice 36 (Operand.tmp 22) none (some (Operand.tmp 24)) none, 36, none) := by kernel_rfl
theorem p122_5_9 : pj (regOf Try.f122 5) 9 = some (some 0, Op.assign (Operand.tmp 25), 36, none) := by kernel_rfl
set_option maxHeartbeats 2000000 in
theorem grow_none (n : Nat) (hn : n = 0) (hm : n ≤ 140737488355328) (w : World) : Calls Try.prog 122 #[.slice none 0 0, .int .i64 (n : Int)] w fun e w' => ∃ A c, e = .returned (.slice A 0 c) ∧ w'.ownsRow w.heap.size 5 1 (.slice A 0 c) 0 [] ∧ Kp w w' (fun _ => False) ∧ (∀ k, OB A k → w.heap.size ≤ k) := by
  have K_0 := Kp.refl w (fun _ => False)
  subst hn
  refine enter (args := [Value.slice none 0 0, Value.int .i64 0]) (n := 27) Try.func122 body122 rfl rfl rfl ?_
  intro a hE
  refine c_reg R122_0_l ?_
  refine p_cons (s_still p122_0_0 hE wn_none rfl (st_assign rfl) ?_)
  clear hE a; intro a hE
  refine p_nil ?_
  refine x_norm ?_
  refine wp_seq ?_
  refine c_reg R122_1_l ?_
  refine p_cons (s_still p122_1_0 hE wn_none rfl (st_move rfl) ?_)
  clear hE a; intro a hE
  refine p_cons (s_still p122_1_1 hE wn_none rfl (st_lss (b := false) rfl rfl (by decide)) ?_)
  clear hE a; intro a hE
  refine p_nil ?_
  refine x_norm ?_
  refine c_cond (t := false) hE rfl ?_
  refine wp_skip ?_
  refine x_norm ?_
  refine wp_seq ?_
  refine c_reg R122_3_l ?_
  refine p_cons (s_still p122_3_0 hE wn_none rfl (st_move rfl) ?_)
  clear hE a; intro a hE
  refine p_cons (s_still p122_3_1 hE wn_none rfl (st_move rfl) ?_)
  clear hE a; intro a hE
  refine p_cons (s_still p122_3_2 hE wn_none rfl (st_cap Try.underlying36 rfl) ?_)
  clear hE a; intro a hE
  refine p_cons (s_still p122_3_3 hE wn_none rfl (st_move rfl) ?_)
  clear hE a; intro a hE
  refine p_cons (s_still p122_3_4 hE wn_none rfl (st_len Try.underlying36 rfl) ?_)
  clear hE a; intro a hE
  refine p_cons (s_still p122_3_5 hE wn_none rfl (st_sub (z := 0) rfl rfl (by decide)) ?_)
  clear hE a; intro a hE
  refine p_cons (s_still p122_3_6 hE wn_none rfl (st_sub (z := 0) rfl rfl (by decide)) ?_)
  clear hE a; intro a hE
  refine p_cons (s_still p122_3_7 hE wn_none rfl (st_assign rfl) ?_)
  clear hE a; intro a hE
  refine p_nil ?_
  refine x_norm ?_
  refine c_reg R122_4_l ?_
  refine p_cons (s_still p122_4_0 hE wn_none rfl (st_move rfl) ?_)
  clear hE a; intro a hE
  refine p_cons (s_still p122_4_1 hE wn_none rfl (st_gtr (b := false) rfl rfl (by decide)) ?_)
  clear hE a; intro a hE
  refine p_nil ?_
  refine x_norm ?_
  refine c_cond (t := false) hE rfl ?_
  refine wp_skip ?_
  refine x_norm ?_
  refine c_reg R122_6_l ?_
  refine p_cons (s_still p122_6_0 hE wn_none rfl (st_move rfl) ?_)
  clear hE a; intro a hE
  refine p_cons (s_still p122_6_1 hE wn_none rfl (st_assign rfl) ?_)
  clear hE a; intro a hE
  refine p_nil ?_
  refine x_norm ?_
  refine wp_ret ?_
  refine ret_one (v := Value.slice none 0 0) rfl hE (.tmp rfl .nil) ?_
  exact ⟨none, 0, rfl, own_none _ _ _ _, K_0, fun k h => absurd h ob_nil⟩
set_option maxHeartbeats 2000000 in
theorem grow_some (n : Nat) (hn : 0 < n) (hm : n ≤ 140737488355328) (w : World) : Calls Try.prog 122 #[.slice none 0 0, .int .i64 (n : Int)] w fun e w' => ∃ A c, e = .returned (.slice A 0 c) ∧ w'.ownsRow w.heap.size 5 1 (.slice A 0 c) 0 [] ∧ Kp w w' (fun _ => False) ∧ (∀ k, OB A k → w.heap.size ≤ k) := by
  have K_0 := Kp.refl w (fun _ => False)
  refine enter (args := [Value.slice none 0 0, Value.int .i64 (n : Int)]) (n := 27) Try.func122 body122 rfl rfl rfl ?_
  intro a hE
  refine c_reg R122_0_l ?_
  refine p_cons (s_still p122_0_0 hE wn_none rfl (st_assign rfl) ?_)
  clear hE a; intro a hE
  refine p_nil ?_
  refine x_norm ?_
  refine wp_seq ?_
  refine c_reg R122_1_l ?_
  refine p_cons (s_still p122_1_0 hE wn_none rfl (st_move rfl) ?_)
  clear hE a; intro a hE
  refine p_cons (s_still p122_1_1 hE wn_none rfl (st_lss (b := false) rfl rfl (decide_eq_false (by omega))) ?_)
  clear hE a; intro a hE
  refine p_nil ?_
  refine x_norm ?_
  refine c_cond (t := false) hE rfl ?_
  refine wp_skip ?_
  refine x_norm ?_
  refine wp_seq ?_
  refine c_reg R122_3_l ?_
  refine p_cons (s_still p122_3_0 hE wn_none rfl (st_move rfl) ?_)
  clear hE a; intro a hE
  refine p_cons (s_still p122_3_1 hE wn_none rfl (st_move rfl) ?_)
  clear hE a; intro a hE
  refine p_cons (s_still p122_3_2 hE wn_none rfl (st_cap Try.underlying36 rfl) ?_)
  clear hE a; intro a hE
  refine p_cons (s_still p122_3_3 hE wn_none rfl (st_move rfl) ?_)
  clear hE a; intro a hE
  refine p_cons (s_still p122_3_4 hE wn_none rfl (st_len Try.underlying36 rfl) ?_)
  clear hE a; intro a hE
  refine p_cons (s_still p122_3_5 hE wn_none rfl (st_sub (z := 0) rfl rfl (by decide)) ?_)
  clear hE a; intro a hE
  refine p_cons (s_still p122_3_6 hE wn_none rfl (st_sub (z := (n : Int)) rfl rfl (by rw [Int.sub_zero]; exact wr_i64 _ (by omega) (by omega))) ?_)
  clear hE a; intro a hE
  refine p_cons (s_still p122_3_7 hE wn_none rfl (st_assign rfl) ?_)
  clear hE a; intro a hE
  refine p_nil ?_
  refine x_norm ?_
  refine c_reg R122_4_l ?_
  refine p_cons (s_still p122_4_0 hE wn_none rfl (st_move rfl) ?_)
  clear hE a; intro a hE
  refine p_cons (s_still p122_4_1 hE wn_none rfl (st_gtr (b := true) rfl rfl (decide_eq_true (by omega))) ?_)
  clear hE a; intro a hE
  refine p_nil ?_
  refine x_norm ?_
  refine c_cond (t := true) hE rfl ?_
  refine c_regL R122_5_l ?_
  refine p_cons (s_still p122_5_0 hE wn_none rfl (st_move rfl) ?_)
  clear hE a; intro a hE
  refine p_cons (s_still p122_5_1 hE wn_none rfl (st_move rfl) ?_)
  clear hE a; intro a hE
  refine p_cons (s_still p122_5_2 hE wn_none rfl (st_cap Try.underlying36 rfl) ?_)
  clear hE a; intro a hE
  refine p_cons (s_still p122_5_3 hE wn_none rfl (st_sliceH (h := 0) Try.underlying36 tS5 rfl rfl (by decide)) ?_)
  clear hE a; intro a hE
  refine p_cons (s_still p122_5_4 hE wn_none rfl (st_move rfl) ?_)
  clear hE a; intro a hE
  refine p_cons (s_appendZ (q := n) p122_5_5 hE wn_none rfl Try.underlying36 Try.underlying3 tZ5 eD5 rfl rfl (by omega) (by omega) (by decide) w.heap.size (Nat.le_refl _) ?_)
  clear hE a; rintro A1 c1 w1 ⟨xs, O_1⟩ hk hat a hE
  replace K_0 := K_0.then_ hk (fun _ h => h.elim)
  have Ob := hat
  clear hk hat
  refine p_cons (s_still p122_5_6 hE wn_none rfl (st_move rfl) ?_)
  clear hE a; intro a hE
  refine p_cons (s_still p122_5_7 hE wn_none rfl (st_len Try.underlying36 rfl) ?_)
  clear hE a; intro a hE
  refine p_cons (s_still p122_5_8 hE wn_none rfl (st_sliceH (h := 0) Try.underlying36 tS5 rfl rfl (by omega)) ?_)
  clear hE a; intro a hE
  refine p_cons (s_still p122_5_9 hE wn_none rfl (st_assign rfl) ?_)
  clear hE a; intro a hE
  refine p_nil ?_
  refine x_norm ?_
  refine c_reg R122_6_l ?_
  refine p_cons (s_still p122_6_0 hE wn_none rfl (st_move rfl) ?_)
  clear hE a; intro a hE
  refine p_cons (s_still p122_6_1 hE wn_none rfl (st_assign rfl) ?_)
  clear hE a; intro a hE
  refine p_nil ?_
  refine x_norm ?_
  refine wp_ret ?_
  refine ret_one (v := Value.slice A1 0 c1) rfl hE (.tmp rfl .nil) ?_
  exact ⟨A1, c1, rfl, by have := own_cut (h := 0) O_1 (Nat.zero_le _); rwa [List.take_zero] at this, K_0, Ob⟩
theorem grow_any (n : Nat) (hm : n ≤ 140737488355328) (w : World) : Calls Try.prog 122 #[.slice none 0 0, .int .i64 (n : Int)] w fun e w' => ∃ A c, e = .returned (.slice A 0 c) ∧ w'.ownsRow w.heap.size 5 1 (.slice A 0 c) 0 [] ∧ Kp w w' (fun _ => False) ∧ (∀ k, OB A k → w.heap.size ≤ k) := by
  by_cases h : n = 0
  · exact grow_none n h hm w
  · exact grow_some n (by omega) hm w
theorem R71_0_l : List.range (regOf Try.f71 0).size = [0] := by kernel_rfl
theorem R71_1_l : List.range (regOf Try.f71 1).size = [0] := by kernel_rfl
theorem R71_2_l : List.range (regOf Try.f71 2).size = [0, 1, 2] := by kernel_rfl
theorem R71_3_l : List.range (regOf Try.f71 3).size = [0] := by kernel_rfl
theorem R71_4_l : List.range (regOf Try.f71 4).size = [0, 1, 2] := by kernel_rfl
theorem R71_5_l : List.range (regOf Try.f71 5).size = [0, 1, 2, 3, 4] := by kernel_rfl
theorem R71_6_l : List.range (regOf Try.f71 6).size = [0, 1] := by kernel_rfl
theorem R71_7_l : List.range (regOf Try.f71 7).size = [0, 1] := by kernel_rfl
theorem R71_8_l : List.range (regOf Try.f71 8).size = [0, 1] := by kernel_rfl
theorem R71_9_l : List.range (regOf Try.f71 9).size = [0, 1, 2] := by kernel_rfl
theorem R71_10_l : List.range (regOf Try.f71 10).size = [0, 1, 2] := by kernel_rfl
theorem R71_11_l : List.range (regOf Try.f71 11).size = [0] := by kernel_rfl
theorem R71_12_l : List.range (regOf Try.f71 12).size = [0, 1, 2] := by kernel_rfl
theorem R71_13_l : List.range (regOf Try.f71 13).size = [0, 1, 2, 3] := by kernel_rfl
theorem R71_14_l : List.range (regOf Try.f71 14).size = [0, 1] := by kernel_rfl
theorem R71_15_l : List.range (regOf Try.f71 15).size = [0, 1] := by kernel_rfl
theorem body71 : Try.f71.body = some (.seq (.region 0 (regOf Try.f71 0) false) (.seq (.region 1 (regOf Try.f71 1) false) (.seq (.seq (.region 2 (regOf Try.f71 2) false) (.block 0 (.loop (.seq (.region 3 (regOf Try.f71 3) false) (.seq (.cond (Operand.tmp 12) (.skip) (.exit 0)) (.seq (.block 1 (.seq (.region 4 (regOf Try.f71 4) false) (.seq (.region 5 (regOf Try.f71 5) false) (.seq (.region 6 (regOf Try.f71 6) false) (.cond (Operand.tmp 20) (.region 7 (regOf Try.f71 7) false) (.skip)))))) (.region 8 (regOf Try.f71 8) false))))))) (.seq (.region 9 (regOf Try.f71 9) false) (.seq (.seq (.region 10 (regOf Try.f71 10) false) (.block 2 (.loop (.seq (.region 11 (regOf Try.f71 11) false) (.seq (.cond (Operand.tmp 28) (.skip) (.exit 2)) (.seq (.block 3 (.seq (.region 12 (regOf Try.f71 12) false) (.region 13 (regOf Try.f71 13) false))) (.region 14 (regOf Try.f71 14) false))))))) (.seq (.region 15 (regOf Try.f71 15) false) (.ret))))))) := by kernel_rfl
theorem p71_0_0 : pj (regOf Try.f71 0) 0 = some (some 2, Op.assign (Operand.const (Value.slice none 0 0)), 36, none) := by kernel_rfl
theorem p71_1_0 : pj (regOf Try.f71 1) 0 = some (some 3, Op.assign (Operand.const (Value.int IntKind.i64 0)), 3, none) := by kernel_rfl
theorem p71_2_0 : pj (regOf Try.f71 2) 0 = some (some 9, Op.move (Operand.tmp 0), 35, none) := by kernel_rfl
theorem p71_2_1 : pj (regOf Try.f71 2) 1 = some (some 10, Op.call { callee := Callee.builtin Builtin.len, args := #[Operand.tmp 9], argTypes := #[35] }, 3, none) := by kernel_rfl
theorem p71_2_2 : pj (regOf Try.f71 2) 2 = some (some 11, Op.move (Operand.const (Value.int IntKind.i64 0)), 3, none) := by kernel_rfl
theorem p71_3_0 : pj (regOf Try.f71 3) 0 = some (some 12, Op.binOp BinOp.lss 3 (Operand.tmp 11) (Operand.tmp 10) 3, 0, none) := by kernel_rfl
theorem p71_4_0 : pj (regOf Try.f71 4) 0 = some (some 13, Op.indexAddr 35 (Operand.tmp 9) (Operand.tmp 11), 0, none) := by kernel_rfl
theorem tS36 : (Try.prog.info? 36).map (·.size) = some 1 := by kernel_rfl
theorem p71_4_1 : pj (regOf Try.f71 4) 1 = some (some 14, Op.load 36 (Operand.tmp 13), 36, none) := by kernel_rfl
theorem tA36 : (Try.prog.underlying 36).map aggD = some false := by kernel_rfl
theorem p71_4_2 : pj (regOf Try.f71 4) 2 = some (some 5, Op.assign (Operand.tmp 14), 36, none) := by kernel_rfl
theorem p71_5_0 : pj (regOf Try.f71 5) 0 = some (some 15, Op.move (Operand.tmp 3), 3, none) := by kernel_rfl
theorem p71_5_1 : pj (regOf Try.f71 5) 1 = some (some 16, Op.move (Operand.tmp 5), 36, none) := by kernel_rfl
theorem p71_5_2 : pj (regOf Try.f71 5) 2 = some (some 17, Op.call { callee := Callee.builtin Builtin.len, args := #[Operand.tmp 16], argTypes := #[36] }, 3, none) := by kernel_rfl
theorem p71_5_3 : pj (regOf Try.f71 5) 3 = some (some 18, Op.binOp BinOp.add 3 (Operand.tmp 15) (Operand.tmp 17) 3, 3, none) := by kernel_rfl
theorem p71_5_4 : pj (regOf Try.f71 5) 4 = some (some 3, Op.assign (Operand.tmp 18), 3, none) := by kernel_rfl
theorem p71_6_0 : pj (regOf Try.f71 6) 0 = some (some 19, Op.move (Operand.tmp 3), 3, none) := by kernel_rfl
theorem p71_6_1 : pj (regOf Try.f71 6) 1 = some (some 20, Op.binOp BinOp.lss 3 (Operand.tmp 19) (Operand.const (Value.int IntKind.i64 0)) 3, 4, none) := by kernel_rfl
theorem p71_8_0 : pj (regOf Try.f71 8) 0 = some (some 22, Op.binOp BinOp.add 3 (Operand.tmp 11) (Operand.const (Value.int IntKind.i64 1)) 3, 3, none) := by kernel_rfl
theorem p71_8_1 : pj (regOf Try.f71 8) 1 = some (some 11, Op.move (Operand.tmp 22), 3, none) := by kernel_rfl
theorem p71_9_0 : pj (regOf Try.f71 9) 0 = some (some 23, Op.move (Operand.tmp 3), 3, none) := by kernel_rfl
theorem p71_9_1 : pj (regOf Try.f71 9) 1 = some (some 24, Op.call { callee := Callee.value (Operand.func 122), args := #[Operand.const (Value.slice none 0 0), Operand.tmp 23], argTypes := #[36, 3] }, 36, none) := by kernel_rfl
theorem cl122 : callable Try.f122 = true := by kernel_rfl
theorem p71_9_2 : pj (regOf Try.f71 9) 2 = some (some 6, Op.assign (Operand.tmp 24), 36, none) := by kernel_rfl
theorem p71_10_0 : pj (regOf Try.f71 10) 0 = some (some 25, Op.move (Operand.tmp 0), 35, none) := by kernel_rfl
theorem p71_10_1 : pj (regOf Try.f71 10) 1 = some (some 26, Op.call { callee := Callee.builtin Builtin.len, args := #[Operand.tmp 25], argTypes := #[35] }, 3, none) := by kernel_rfl
theorem p71_10_2 : pj (regOf Try.f71 10) 2 = some (some 27, Op.move (Operand.const (Value.int IntKind.i64 0)), 3, none) := by kernel_rfl
theorem p71_11_0 : pj (regOf Try.f71 11) 0 = some (some 28, Op.binOp BinOp.lss 3 (Operand.tmp 27) (Operand.tmp 26) 3, 0, none) := by kernel_rfl
theorem p71_12_0 : pj (regOf Try.f71 12) 0 = some (some 29, Op.indexAddr 35 (Operand.tmp 25) (Operand.tmp 27), 0, none) := by kernel_rfl
theorem p71_12_1 : pj (regOf Try.f71 12) 1 = some (some 30, Op.load 36 (Operand.tmp 29), 36, none) := by kernel_rfl
theorem p71_12_2 : pj (regOf Try.f71 12) 2 = some (some 8, Op.assign (Operand.tmp 30), 36, none) := by kernel_rfl
theorem p71_13_0 : pj (regOf Try.f71 13) 0 = some (some 31, Op.move (Operand.tmp 6), 36, none) := by kernel_rfl
theorem p71_13_1 : pj (regOf Try.f71 13) 1 = some (some 32, Op.move (Operand.tmp 8), 36, none) := by kernel_rfl
theorem p71_13_2 : pj (regOf Try.f71 13) 2 = some (some 33, Op.call { callee := Callee.builtin Builtin.append, args := #[Operand.tmp 31, Operand.tmp 32], argTypes := #[36, 36] }, 36, none) := by kernel_rfl
theorem p71_13_3 : pj (regOf Try.f71 13) 3 = some (some 6, Op.assign (Operand.tmp 33), 36, none) := by kernel_rfl
theorem p71_14_0 : pj (regOf Try.f71 14) 0 = some (some 34, Op.binOp BinOp.add 3 (Operand.tmp 27) (Operand.const (Value.int IntKind.i64 1)) 3, 3, none) := by kernel_rfl
theorem p71_14_1 : pj (regOf Try.f71 14) 1 = some (some 27, Op.move (Operand.tmp 34), 3, none) := by kernel_rfl
theorem p71_15_0 : pj (regOf Try.f71 15) 0 = some (some 35, Op.move (Operand.tmp 6), 36, none) := by kernel_rfl
theorem p71_15_1 : pj (regOf Try.f71 15) 1 = some (some 2, Op.assign (Operand.tmp 35), 36, none) := by kernel_rfl
set_option maxHeartbeats 4000000 in
theorem concat_any (A : Option Addr) (n c : Nat) (ls : List (List Int)) (hn : n = ls.length) (w : World) (h : Kd.C (Kd.slice 5 (Kd.int .u8)) w A ls.length ls) (hc : ls.length ≤ c) (hm : ls.flatten.length ≤ 70368744177664) (hml : ls.length ≤ 70368744177664) : Calls Try.prog 71 #[.slice A n c] w fun e w' => ∃ A' c', e = .returned (.slice A' ls.flatten.length c') ∧ w'.ownsRow w.heap.size 5 1 (.slice A' ls.flatten.length c') ls.flatten.length (encs (Value.int .u8) ls.flatten) ∧ Kp w w' (fun _ => False) := by
  have K_0 := Kp.refl w (fun _ => False)
  subst hn
  have F_ls : ∀ W', Kp w W' (fun _ => False) → Kd.C (Kd.slice 5 (Kd.int .u8)) W' A ls.length ls := fun W' hk => Kd.C_below h (hk.to (Nat.le_refl _) (fun _ h => h.elim))
  refine enter (args := [Value.slice A ls.length c]) (n := 36) Try.func71 body71 rfl rfl rfl ?_
  intro a hE
  refine c_reg R71_0_l ?_
  refine p_cons (s_still p71_0_0 hE wn_none rfl (st_assign rfl) ?_)
  clear hE a; intro a hE
  refine p_nil ?_
  refine x_norm ?_
  refine c_reg R71_1_l ?_
  refine p_cons (s_still p71_1_0 hE wn_none rfl (st_assign rfl) ?_)
  clear hE a; intro a hE
  refine p_nil ?_
  refine x_norm ?_
  refine wp_seq ?_
  refine c_reg R71_2_l ?_
  refine p_cons (s_still p71_2_0 hE wn_none rfl (st_move rfl) ?_)
  clear hE a; intro a hE
  refine p_cons (s_still p71_2_1 hE wn_none rfl (st_len Try.underlying35 rfl) ?_)
  clear hE a; intro a hE
  refine p_cons (s_still p71_2_2 hE wn_none rfl (st_move rfl) ?_)
  clear hE a; intro a hE
  refine p_nil ?_
  refine x_norm ?_
  refine wp_block ?_
  refine c_loop (α := Nat) (fun k a W => En 36 a [(0, Value.slice A ls.length c), (2, Value.slice none 0 0), (9, Value.slice A ls.length c), (10, Value.int .i64 (ls.length : Int)), (3, Value.int .i64 (tot ls k : Int)), (11, Value.int .i64 (k : Int))] ∧ k ≤ ls.length ∧ Kp w W (fun _ => False)) (fun k => ls.length - k) (0) ?_ ?_
  ·
    exact ⟨En.sub hE ⟨rfl, rfl, rfl, rfl, rfl, rfl, trivial⟩, Nat.zero_le _, K_0⟩
  ·
    clear hE a
    rintro k a w1 ⟨hE, hk9, K_0⟩
    refine c_reg R71_3_l ?_
    rcases Decidable.em ((k : Int) < (ls.length : Int)) with hc2 | hc2
    ·
      refine p_cons (s_still (v := Value.bool true) p71_3_0 hE wn_none rfl (st_lss rfl rfl (decide_eq_true hc2)) ?_)
      clear hE a; intro a hE
      refine p_nil ?_
      refine x_norm ?_
      refine wp_seq ?_
      refine c_cond (t := true) hE rfl ?_
      refine wp_skip ?_
      refine x_norm ?_
      refine wp_seq ?_
      refine wp_block ?_
      refine c_reg R71_4_l ?_
      refine p_cons (s_still p71_4_0 hE wn_none rfl (st_indexAddrS (i := k) Try.underlying35 tS36 (C_row (F_ls _ K_0) (show k < ls.length by omega)).1 rfl rfl (by omega)) ?_)
      clear hE a; intro a hE
      obtain ⟨_, A3, cA3, hcl, hleA3, hCA3⟩ := C_row (F_ls _ K_0) (show k < ls.length by omega)
      refine p_cons (s_still p71_4_1 hE wn_none rfl (st_load1 tA36 rfl hcl) ?_)
      clear hE a; intro a hE
      refine p_cons (s_still p71_4_2 hE wn_none rfl (st_assign rfl) ?_)
      clear hE a; intro a hE
      refine p_nil ?_
      refine x_norm ?_
      refine c_reg R71_5_l ?_
      refine p_cons (s_still p71_5_0 hE wn_none rfl (st_move rfl) ?_)
      clear hE a; intro a hE
      refine p_cons (s_still p71_5_1 hE wn_none rfl (st_move rfl) ?_)
      clear hE a; intro a hE
      refine p_cons (s_still p71_5_2 hE wn_none rfl (st_len Try.underlying36 rfl) ?_)
      clear hE a; intro a hE
      refine p_cons (s_still p71_5_3 hE wn_none rfl (st_add (z := (tot ls (k + 1) : Int)) rfl rfl (by rw [tot_succ ls k (by omega)]; exact wr_i64 _ (by omega) (by have := tot_succ ls k (by omega); have := tot_le ls (k + 1); omega))) ?_)
      clear hE a; intro a hE
      refine p_cons (s_still p71_5_4 hE wn_none rfl (st_assign rfl) ?_)
      clear hE a; intro a hE
      refine p_nil ?_
      refine x_norm ?_
      refine c_reg R71_6_l ?_
      refine p_cons (s_still p71_6_0 hE wn_none rfl (st_move rfl) ?_)
      clear hE a; intro a hE
      refine p_cons (s_still p71_6_1 hE wn_none rfl (st_lss (b := false) rfl rfl (decide_eq_false (by omega))) ?_)
      clear hE a; intro a hE
      refine p_nil ?_
      refine x_norm ?_
      refine c_cond (t := false) hE rfl ?_
      refine wp_skip ?_
      refine x_normB ?_
      refine x_norm ?_
      refine c_regL R71_8_l ?_
      refine p_cons (s_still p71_8_0 hE wn_none rfl (st_add (z := ((k + 1 : Nat) : Int)) rfl rfl (wr_i64 _ (by omega) (by omega))) ?_)
      clear hE a; intro a hE
      refine p_cons (s_still p71_8_1 hE wn_none rfl (st_move rfl) ?_)
      clear hE a; intro a hE
      refine p_nil ?_
      refine x_norm ?_
      exact ⟨k + 1, by omega, En.sub hE ⟨rfl, rfl, rfl, rfl, rfl, rfl, trivial⟩, by omega, K_0⟩
    ·
      refine p_cons (s_still (v := Value.bool false) p71_3_0 hE wn_none rfl (st_lss rfl rfl (decide_eq_false hc2)) ?_)
      clear hE a; intro a hE
      refine p_nil ?_
      refine x_norm ?_
      refine wp_seq ?_
      refine c_cond (t := false) hE rfl ?_
      refine wp_exit ?_
      refine x_exit ?_
      refine x_exit ?_
      obtain rfl : k = ls.length := by omega
      refine x_in ?_
      refine x_norm ?_
      refine c_reg R71_9_l ?_
      refine p_cons (s_still p71_9_0 hE wn_none rfl (st_move rfl) ?_)
      clear hE a; intro a hE
      have hw9 := K_0.kept.1
      refine p_cons (s_call (xs := [Operand.const (Value.slice none 0 0), Operand.tmp 23]) (args := [Value.slice none 0 0, Value.int .i64 (tot ls ls.length : Int)]) p71_9_1 hE wn_none rfl rfl Try.func122 cl122 (grow_any (tot ls ls.length) (by have := tot_le ls ls.length; omega) _) ?_)
      rintro e w4 ⟨A1, c1, rfl, O_out, hk, hat⟩
      replace O_out := own_lower O_out hw9
      replace K_0 := K_0.then_ hk (fun _ h => h.elim)
      have Z_0_out : ∀ k, OB A1 k → (fun _ => False) k ∨ w.heap.size ≤ k := fun k h => .inr (by have := hat k h; have := hw9; omega)
      refine ⟨_, rfl, ?_⟩
      clear hE a; intro a hE
      refine p_cons (s_still p71_9_2 hE wn_none rfl (st_assign rfl) ?_)
      clear hE a; intro a hE
      refine p_nil ?_
      refine x_norm ?_
      refine wp_seq ?_
      refine c_reg R71_10_l ?_
      refine p_cons (s_still p71_10_0 hE wn_none rfl (st_move rfl) ?_)
      clear hE a; intro a hE
      refine p_cons (s_still p71_10_1 hE wn_none rfl (st_len Try.underlying35 rfl) ?_)
      clear hE a; intro a hE
      refine p_cons (s_still p71_10_2 hE wn_none rfl (st_move rfl) ?_)
      clear hE a; intro a hE
      refine p_nil ?_
      refine x_norm ?_
      refine wp_block ?_
      refine c_loop (α := Nat) (fun k a W => ∃ (A_out : Option Addr) (c_out : Nat) (n_out : Nat), En 36 a [(0, Value.slice A ls.length c), (2, Value.slice none 0 0), (9, Value.slice A ls.length c), (10, Value.int .i64 (ls.length : Int)), (3, Value.int .i64 (tot ls ls.length : Int)), (11, Value.int .i64 (ls.length : Int)), (12, Value.bool false), (25, Value.slice A ls.length c), (26, Value.int .i64 (ls.length : Int)), (6, Value.slice A_out n_out c_out), (27, Value.int .i64 (k : Int))] ∧ k ≤ ls.length ∧ n_out = tot ls k ∧ n_out = ((ls.take k).flatten).length ∧ W.ownsRow w.heap.size 5 1 (.slice A_out n_out c_out) n_out (encs (Value.int .u8) ((ls.take k).flatten)) ∧ (∀ k, OB A_out k → (fun _ => False) k ∨ w.heap.size ≤ k) ∧ Kp w W (fun _ => False)) (fun k => ls.length - k) (0) ?_ ?_
      ·
        exact ⟨A1, c1, 0, En.sub hE ⟨rfl, rfl, rfl, rfl, rfl, rfl, rfl, rfl, rfl, rfl, rfl, trivial⟩, Nat.zero_le _, rfl, rfl, O_out, Z_0_out, K_0⟩
      ·
        clear hE a
        rintro k a w5 ⟨A_out, c_out, n_out, hE, hk9, hn9, hn_out, O_out, Z_0_out, K_0⟩
        have htk := tot_le ls k
        have htk1 := tot_le ls (k + 1)
        have hts : k < ls.length → tot ls (k + 1) = tot ls k + (ls.getD k []).length := tot_succ ls k
        refine c_reg R71_11_l ?_
        rcases Decidable.em ((k : Int) < (ls.length : Int)) with hc6 | hc6
        ·
          refine p_cons (s_still (v := Value.bool true) p71_11_0 hE wn_none rfl (st_lss rfl rfl (decide_eq_true hc6)) ?_)
          clear hE a; intro a hE
          refine p_nil ?_
          refine x_norm ?_
          refine wp_seq ?_
          refine c_cond (t := true) hE rfl ?_
          refine wp_skip ?_
          refine x_norm ?_
          refine wp_seq ?_
          refine wp_block ?_
          refine c_reg R71_12_l ?_
          refine p_cons (s_still p71_12_0 hE wn_none rfl (st_indexAddrS (i := k) Try.underlying35 tS36 (C_row (F_ls _ K_0) (show k < ls.length by omega)).1 rfl rfl (by omega)) ?_)
          clear hE a; intro a hE
          obtain ⟨_, A7, cA7, hcl, hleA7, hCA7⟩ := C_row (F_ls _ K_0) (show k < ls.length by omega)
          refine p_cons (s_still p71_12_1 hE wn_none rfl (st_load1 tA36 rfl hcl) ?_)
          clear hE a; intro a hE
          refine p_cons (s_still p71_12_2 hE wn_none rfl (st_assign rfl) ?_)
          clear hE a; intro a hE
          refine p_nil ?_
          refine x_norm ?_
          refine c_regL R71_13_l ?_
          refine p_cons (s_still p71_13_0 hE wn_none rfl (st_move rfl) ?_)
          clear hE a; intro a hE
          refine p_cons (s_still p71_13_1 hE wn_none rfl (st_move rfl) ?_)
          clear hE a; intro a hE
          refine p_cons (s_appendC (xs := (ls.take k).flatten) (ys := (ls.getD k [])) p71_13_2 hE wn_none rfl Try.underlying36 eD5 rfl O_out rfl hCA7 (by omega) (by omega) K_0.kept.1 ?_)
          clear hE a; intro Aout8 cout9 w10 O_out' hk hat a hE
          have Z_0_out' := grow_z Z_0_out K_0.kept.1 hat
          replace K_0 := K_0.then_ hk Z_0_out
          replace Z_0_out := Z_0_out'
          replace O_out : w10.ownsRow _ 5 1 (.slice Aout8 (n_out + (ls.getD k []).length) cout9) (n_out + (ls.getD k []).length) (encs (Value.int .u8) ((ls.take k).flatten ++ (ls.getD k []))) := O_out'
          clear O_out' hk hat
          refine p_cons (s_still p71_13_3 hE wn_none rfl (st_assign rfl) ?_)
          clear hE a; intro a hE
          refine p_nil ?_
          refine x_normB ?_
          refine x_norm ?_
          refine c_regL R71_14_l ?_
          refine p_cons (s_still p71_14_0 hE wn_none rfl (st_add (z := ((k + 1 : Nat) : Int)) rfl rfl (wr_i64 _ (by omega) (by omega))) ?_)
          clear hE a; intro a hE
          refine p_cons (s_still p71_14_1 hE wn_none rfl (st_move rfl) ?_)
          clear hE a; intro a hE
          refine p_nil ?_
          refine x_norm ?_
          rw [flat_succ ls k (by omega)] at O_out
          exact ⟨k + 1, by omega, Aout8, cout9, (n_out + (ls.getD k []).length), En.sub hE ⟨rfl, rfl, rfl, rfl, rfl, rfl, rfl, rfl, rfl, rfl, rfl, trivial⟩, by omega, by rw [tot_succ ls k (by omega), hn9], by rw [hn9]; exact (tot_succ ls k (by omega)).symm, O_out, Z_0_out, K_0⟩
        ·
          refine p_cons (s_still (v := Value.bool false) p71_11_0 hE wn_none rfl (st_lss rfl rfl (decide_eq_false hc6)) ?_)
          clear hE a; intro a hE
          refine p_nil ?_
          refine x_norm ?_
          refine wp_seq ?_
          refine c_cond (t := false) hE rfl ?_
          refine wp_exit ?_
          refine x_exit ?_
          refine x_exit ?_
          obtain rfl : k = ls.length := by omega
          refine x_in ?_
          refine x_norm ?_
          refine c_reg R71_15_l ?_
          refine p_cons (s_still p71_15_0 hE wn_none rfl (st_move rfl) ?_)
          clear hE a; intro a hE
          refine p_cons (s_still p71_15_1 hE wn_none rfl (st_assign rfl) ?_)
          clear hE a; intro a hE
          refine p_nil ?_
          refine x_norm ?_
          refine wp_ret ?_
          refine ret_one (v := Value.slice A_out n_out c_out) rfl hE (.tmp rfl .nil) ?_
          have e1 := tot_all ls
          have e2 : n_out = ls.flatten.length := by omega
          subst e2
          rw [List.take_length] at O_out
          exact ⟨_, _, rfl, O_out, K_0⟩
end Go.Proofs.Ytndiddfleidnaaa.Cc
