/- Package wheel. -/
import Derived.Test.YtlmjbmeigclihaaChecked
import Derived.Test.YtlmjbmeigclihaaWhp
import Derived.Test.YtlmjbmeigclihaaMco
import Derived.LoopN
set_option maxRecDepth 100000
set_option linter.unusedVariables false
set_option linter.unusedSimpArgs false
namespace Go.Proofs.Ytlmjbmeigclihaa.Wh
open Go.RowKit Go.Proofs.YtlmjbmeigclihaaW.PrintWords Go.Proofs.Ytlmjbmeigclihaa.Ds Go.Proofs.Ytlmjbmeigclihaa.Wp
open Go.Proofs.Ytlmjbmeigclihaa.Pk (Kp)
open Go.Proofs.Ytlmjbmeigclihaa.Mi (st_eqlP st_neqP x_normS x_retS x_exitS MapI getI putI delI)
theorem eqM {P : Program} (w : World) (d : Nat) {T k e : TypeId} (p : Option Nat) (h : P.underlying T = some (.map k e)) : (Op.equalIn (d + 1) T (.map p) (.map none)).run P w = .ok p.isNone w := by
  cases p <;> simp [Op.equalIn, run_underlying h]
section
variable {P : Program} {T T1 T2 k e : TypeId} {m : List (Nat × Value)} {w : World} {X Y : Operand} {b : Bool}
theorem st_eqlM {p : Option Nat} (hT : P.underlying T1 = some (.map k e)) (h1 : ev m X = some (.map p)) (h2 : ev m Y = some (.map none)) (hb : p.isNone = b) : Still P (.binOp .eql T1 X Y T2) T m w (.bool b) := fun n a hE o e1 e2 => by
  subst hb; unfold execOp; rw [e1]
  have : (binOp .eql T1 (.map p) (.map none)).run P w = .ok (.bool p.isNone) w := by
    simp only [binOp]
    simp [show Op.equal T1 (.map p) (.map none) = Op.equalIn (9999 + 1) T1 (.map p) (.map none) from rfl, eqM w 9999 p hT]
  simp [hE.ev h1, hE.ev h2, eqGuard, this]
end
theorem wn_undef {R : Array Oper} {m : List (Nat × Value)} {j : Nat} {want : Bool} {t : Nat} (hj : dstOf R j = some t) (hl : Go.Proofs.Ytlmjbmeigclihaa.Ds.look m t = some undef) : Wn R m (some (j, want)) false := fun n a hE o ho => by
  unfold Region.wanted
  rw [ho]
  simp only
  have h1 : yielded R a.tmps j = none := by
    unfold yielded
    unfold dstOf at hj
    rw [hj]
    simp [hE.get t _ hl, undef]
  rw [h1]
  rfl
theorem R57_0_l : List.range (regOf Try.f57 0).size = [0] := by kernel_rfl
theorem R57_1_l : List.range (regOf Try.f57 1).size = [0, 1, 2, 3] := by kernel_rfl
theorem body57 : Try.f57.body = some (.seq (.region 0 (regOf Try.f57 0) false) (.seq (.region 1 (regOf Try.f57 1) false) (.ret))) := by kernel_rfl
theorem p57_0_0 : pj (regOf Try.f57 0) 0 = some (some 2, .assign (.const (.bool false)), 4, none) := by kernel_rfl
theorem p57_1_0 : pj (regOf Try.f57 1) 0 = some (some 3, .move (.tmp 0), 3, none) := by kernel_rfl
theorem p57_1_1 : pj (regOf Try.f57 1) 1 = some (some 4, .move (.tmp 0), 3, none) := by kernel_rfl
theorem p57_1_2 : pj (regOf Try.f57 1) 2 = some (some 5, .binOp .neq 3 (.tmp 3) (.tmp 4) 3, 4, none) := by kernel_rfl
theorem p57_1_3 : pj (regOf Try.f57 1) 3 = some (some 2, .assign (.tmp 5), 4, none) := by kernel_rfl
set_option maxHeartbeats 4000000 in
theorem nan_no (x : Int) (w : World) : Calls Try.prog 57 #[.int .i64 x] w fun e w' => e = .returned (.bool false) ∧ Kp w w' (fun _ => False) := by
  have K_0 := Kp.refl w (fun _ => False)
  refine enter (args := [Value.int .i64 x]) (n := 6) Try.func57 body57 rfl rfl rfl ?_
  intro a hE
  refine c_reg R57_0_l ?_
  refine q0 p57_0_0 hE (st_assign rfl) ?_
  clear hE a; intro a hE
  refine p_nil ?_
  refine x_norm ?_
  refine c_reg R57_1_l ?_
  refine q0 p57_1_0 hE (st_move rfl) ?_
  clear hE a; intro a hE
  refine q0 p57_1_1 hE (st_move rfl) ?_
  clear hE a; intro a hE
  refine q0 p57_1_2 hE (st_neq (b := false) rfl rfl (by simp)) ?_
  clear hE a; intro a hE
  refine q0 p57_1_3 hE (st_assign rfl) ?_
  clear hE a; intro a hE
  refine p_nil ?_
  refine x_norm ?_
  refine wp_ret ?_
  refine ret_one (v := Value.bool false) rfl hE (.tmp rfl .nil) ?_
  exact ⟨rfl, K_0⟩
theorem R52_0_l : List.range (regOf Try.f52 0).size = [0] := by kernel_rfl
theorem R52_1_l : List.range (regOf Try.f52 1).size = [0, 1, 2] := by kernel_rfl
theorem R52_2_l : List.range (regOf Try.f52 2).size = [0, 1, 2] := by kernel_rfl
theorem R52_3_l : List.range (regOf Try.f52 3).size = [0] := by kernel_rfl
theorem R52_4_l : List.range (regOf Try.f52 4).size = [0] := by kernel_rfl
theorem R52_5_l : List.range (regOf Try.f52 5).size = [0] := by kernel_rfl
theorem R52_6_l : List.range (regOf Try.f52 6).size = [0] := by kernel_rfl
theorem R52_7_l : List.range (regOf Try.f52 7).size = [0] := by kernel_rfl
theorem R52_8_l : List.range (regOf Try.f52 8).size = [0] := by kernel_rfl
theorem R52_9_l : List.range (regOf Try.f52 9).size = [0, 1, 2] := by kernel_rfl
theorem R52_10_l : List.range (regOf Try.f52 10).size = [0] := by kernel_rfl
theorem R52_11_l : List.range (regOf Try.f52 11).size = [0, 1, 2] := by kernel_rfl
theorem R52_12_l : List.range (regOf Try.f52 12).size = [0] := by kernel_rfl
theorem R52_13_l : List.range (regOf Try.f52 13).size = [0] := by kernel_rfl
theorem body52 : Try.f52.body = some (.seq (.region 0 (regOf Try.f52 0) false) (.seq (.region 1 (regOf Try.f52 1) false) (.seq (.region 2 (regOf Try.f52 2) false) (.seq (.seq (.region 3 (regOf Try.f52 3) false) (.cond (Operand.tmp 11) (.seq (.seq (.region 4 (regOf Try.f52 4) false) (.cond (Operand.tmp 12) (.seq (.region 5 (regOf Try.f52 5) false) (.ret)) (.skip))) (.seq (.region 6 (regOf Try.f52 6) false) (.ret))) (.skip))) (.seq (.seq (.region 7 (regOf Try.f52 7) false) (.cond (Operand.tmp 13) (.seq (.region 8 (regOf Try.f52 8) false) (.ret)) (.skip))) (.seq (.seq (.region 9 (regOf Try.f52 9) false) (.cond (Operand.tmp 16) (.seq (.region 10 (regOf Try.f52 10) false) (.ret)) (.skip))) (.seq (.seq (.region 11 (regOf Try.f52 11) false) (.cond (Operand.tmp 19) (.seq (.region 12 (regOf Try.f52 12) false) (.ret)) (.skip))) (.seq (.region 13 (regOf Try.f52 13) false) (.ret))))))))) := by kernel_rfl
theorem p52_0_0 : pj (regOf Try.f52 0) 0 = some (some 4, .assign (.const (.int .i64 0)), 3, none) := by kernel_rfl
theorem p52_1_0 : pj (regOf Try.f52 1) 0 = some (some 7, .move (.tmp 0), 3, none) := by kernel_rfl
theorem p52_1_1 : pj (regOf Try.f52 1) 1 = some (some 8, .call { callee := .value (.func 57), args := #[.tmp 7], argTypes := #[3] }, 4, none) := by kernel_rfl
theorem cl57 : callable Try.f57 = true := by kernel_rfl
theorem p52_1_2 : pj (regOf Try.f52 1) 2 = some (some 5, .assign (.tmp 8), 4, none) := by kernel_rfl
theorem p52_2_0 : pj (regOf Try.f52 2) 0 = some (some 9, .move (.tmp 1), 3, none) := by kernel_rfl
theorem p52_2_1 : pj (regOf Try.f52 2) 1 = some (some 10, .call { callee := .value (.func 57), args := #[.tmp 9], argTypes := #[3] }, 4, none) := by kernel_rfl
theorem p52_2_2 : pj (regOf Try.f52 2) 2 = some (some 6, .assign (.tmp 10), 4, none) := by kernel_rfl
theorem p52_3_0 : pj (regOf Try.f52 3) 0 = some (some 11, .move (.tmp 5), 4, none) := by kernel_rfl
theorem p52_7_0 : pj (regOf Try.f52 7) 0 = some (some 13, .move (.tmp 6), 4, none) := by kernel_rfl
theorem p52_9_0 : pj (regOf Try.f52 9) 0 = some (some 14, .move (.tmp 0), 3, none) := by kernel_rfl
theorem p52_9_1 : pj (regOf Try.f52 9) 1 = some (some 15, .move (.tmp 1), 3, none) := by kernel_rfl
theorem p52_9_2 : pj (regOf Try.f52 9) 2 = some (some 16, .binOp .lss 3 (.tmp 14) (.tmp 15) 3, 4, none) := by kernel_rfl
theorem p52_10_0 : pj (regOf Try.f52 10) 0 = some (some 4, .assign (.const (.int .i64 (-1))), 3, none) := by kernel_rfl
theorem p52_11_0 : pj (regOf Try.f52 11) 0 = some (some 17, .move (.tmp 0), 3, none) := by kernel_rfl
theorem p52_11_1 : pj (regOf Try.f52 11) 1 = some (some 18, .move (.tmp 1), 3, none) := by kernel_rfl
theorem p52_11_2 : pj (regOf Try.f52 11) 2 = some (some 19, .binOp .gtr 3 (.tmp 17) (.tmp 18) 3, 4, none) := by kernel_rfl
theorem p52_12_0 : pj (regOf Try.f52 12) 0 = some (some 4, .assign (.const (.int .i64 1)), 3, none) := by kernel_rfl
theorem p52_13_0 : pj (regOf Try.f52 13) 0 = some (some 4, .assign (.const (.int .i64 0)), 3, none) := by kernel_rfl
set_option maxHeartbeats 4000000 in
theorem cmp_any (x y : Int) (w : World) : Calls Try.prog 52 #[.int .i64 x, .int .i64 y] w fun e w' => e = .returned (.int .i64 (cmpI x y)) ∧ Kp w w' (fun _ => False) := by
  have K_0 := Kp.refl w (fun _ => False)
  refine enter (args := [Value.int .i64 x, Value.int .i64 y]) (n := 20) Try.func52 body52 rfl rfl rfl ?_
  intro a hE
  refine c_reg R52_0_l ?_
  refine q0 p52_0_0 hE (st_assign rfl) ?_
  clear hE a; intro a hE
  refine p_nil ?_
  refine x_norm ?_
  refine c_reg R52_1_l ?_
  refine q0 p52_1_0 hE (st_move rfl) ?_
  clear hE a; intro a hE
  refine p_cons (s_call (xs := [Operand.tmp 7]) (args := [Value.int .i64 x]) p52_1_1 hE wn_none rfl rfl Try.func57 cl57 (nan_no x _) ?_)
  rintro e w1 ⟨rfl, hk⟩
  replace K_0 := K_0.then_ hk (fun _ h => h.elim)
  refine ⟨_, rfl, ?_⟩
  clear hE a; intro a hE
  refine q0 p52_1_2 hE (st_assign rfl) ?_
  clear hE a; intro a hE
  refine p_nil ?_
  refine x_norm ?_
  refine c_reg R52_2_l ?_
  refine q0 p52_2_0 hE (st_move rfl) ?_
  clear hE a; intro a hE
  refine p_cons (s_call (xs := [Operand.tmp 9]) (args := [Value.int .i64 y]) p52_2_1 hE wn_none rfl rfl Try.func57 cl57 (nan_no y _) ?_)
  rintro e w2 ⟨rfl, hk⟩
  replace K_0 := K_0.then_ hk (fun _ h => h.elim)
  refine ⟨_, rfl, ?_⟩
  clear hE a; intro a hE
  refine q0 p52_2_2 hE (st_assign rfl) ?_
  clear hE a; intro a hE
  refine p_nil ?_
  refine x_norm ?_
  refine wp_seq ?_
  refine c_reg R52_3_l ?_
  refine q0 p52_3_0 hE (st_move rfl) ?_
  clear hE a; intro a hE
  refine p_nil ?_
  refine x_norm ?_
  refine c_cond (t := false) hE rfl ?_
  refine wp_skip ?_
  refine x_norm ?_
  refine wp_seq ?_
  refine c_reg R52_7_l ?_
  refine q0 p52_7_0 hE (st_move rfl) ?_
  clear hE a; intro a hE
  refine p_nil ?_
  refine x_norm ?_
  refine c_cond (t := false) hE rfl ?_
  refine wp_skip ?_
  refine x_norm ?_
  refine wp_seq ?_
  rcases Decidable.em (x < y) with hLT | hLT
  ·
    refine c_reg R52_9_l ?_
    refine q0 p52_9_0 hE (st_move rfl) ?_
    clear hE a; intro a hE
    refine q0 p52_9_1 hE (st_move rfl) ?_
    clear hE a; intro a hE
    refine q0 p52_9_2 hE (st_lss (b := true) rfl rfl (decide_eq_true hLT)) ?_
    clear hE a; intro a hE
    refine p_nil ?_
    refine x_norm ?_
    refine c_cond (t := true) hE rfl ?_
    refine c_reg R52_10_l ?_
    refine q0 p52_10_0 hE (st_assign rfl) ?_
    clear hE a; intro a hE
    refine p_nil ?_
    refine x_norm ?_
    refine wp_ret ?_
    refine x_ret ?_
    refine ret_one (v := Value.int .i64 (-1)) rfl hE (.tmp rfl .nil) ?_
    exact ⟨by unfold cmpI; rw [if_pos hLT], K_0⟩
  ·
    refine c_reg R52_9_l ?_
    refine q0 p52_9_0 hE (st_move rfl) ?_
    clear hE a; intro a hE
    refine q0 p52_9_1 hE (st_move rfl) ?_
    clear hE a; intro a hE
    refine q0 p52_9_2 hE (st_lss (b := false) rfl rfl (decide_eq_false hLT)) ?_
    clear hE a; intro a hE
    refine p_nil ?_
    refine x_norm ?_
    refine c_cond (t := false) hE rfl ?_
    refine wp_skip ?_
    refine x_norm ?_
    refine wp_seq ?_
    rcases Decidable.em (y < x) with hGT | hGT
    ·
      refine c_reg R52_11_l ?_
      refine q0 p52_11_0 hE (st_move rfl) ?_
      clear hE a; intro a hE
      refine q0 p52_11_1 hE (st_move rfl) ?_
      clear hE a; intro a hE
      refine q0 p52_11_2 hE (st_gtr (b := true) rfl rfl (decide_eq_true hGT)) ?_
      clear hE a; intro a hE
      refine p_nil ?_
      refine x_norm ?_
      refine c_cond (t := true) hE rfl ?_
      refine c_reg R52_12_l ?_
      refine q0 p52_12_0 hE (st_assign rfl) ?_
      clear hE a; intro a hE
      refine p_nil ?_
      refine x_norm ?_
      refine wp_ret ?_
      refine x_ret ?_
      refine ret_one (v := Value.int .i64 1) rfl hE (.tmp rfl .nil) ?_
      exact ⟨by unfold cmpI; rw [if_neg hLT, if_pos hGT], K_0⟩
    ·
      refine c_reg R52_11_l ?_
      refine q0 p52_11_0 hE (st_move rfl) ?_
      clear hE a; intro a hE
      refine q0 p52_11_1 hE (st_move rfl) ?_
      clear hE a; intro a hE
      refine q0 p52_11_2 hE (st_gtr (b := false) rfl rfl (decide_eq_false hGT)) ?_
      clear hE a; intro a hE
      refine p_nil ?_
      refine x_norm ?_
      refine c_cond (t := false) hE rfl ?_
      refine wp_skip ?_
      refine x_norm ?_
      refine c_reg R52_13_l ?_
      refine q0 p52_13_0 hE (st_assign rfl) ?_
      clear hE a; intro a hE
      refine p_nil ?_
      refine x_norm ?_
      refine wp_ret ?_
      refine ret_one (v := Value.int .i64 0) rfl hE (.tmp rfl .nil) ?_
      exact ⟨by unfold cmpI; rw [if_neg hLT, if_neg hGT], K_0⟩
theorem R51_0_l : List.range (regOf Try.f51 0).size = [0] := by kernel_rfl
theorem R51_1_l : List.range (regOf Try.f51 1).size = [0] := by kernel_rfl
theorem R51_2_l : List.range (regOf Try.f51 2).size = [0, 1, 2] := by kernel_rfl
theorem R51_3_l : List.range (regOf Try.f51 3).size = [0] := by kernel_rfl
theorem R51_4_l : List.range (regOf Try.f51 4).size = [0, 1, 2] := by kernel_rfl
theorem R51_5_l : List.range (regOf Try.f51 5).size = [0, 1, 2] := by kernel_rfl
theorem R51_6_l : List.range (regOf Try.f51 6).size = [0, 1] := by kernel_rfl
theorem R51_7_l : List.range (regOf Try.f51 7).size = [0, 1] := by kernel_rfl
theorem R51_8_l : List.range (regOf Try.f51 8).size = [0, 1] := by kernel_rfl
theorem body51 : Try.f51.body = some (.seq (.region 0 (regOf Try.f51 0) false) (.seq (.region 1 (regOf Try.f51 1) false) (.seq (.seq (.region 2 (regOf Try.f51 2) false) (.block 0 (.loop (.seq (.region 3 (regOf Try.f51 3) false) (.seq (.cond (Operand.tmp 9) (.skip) (.exit 0)) (.seq (.block 1 (.seq (.region 4 (regOf Try.f51 4) false) (.seq (.region 5 (regOf Try.f51 5) false) (.cond (Operand.tmp 14) (.seq (.region 6 (regOf Try.f51 6) false) (.ret)) (.skip))))) (.region 7 (regOf Try.f51 7) false))))))) (.seq (.region 8 (regOf Try.f51 8) false) (.ret))))) := by kernel_rfl
theorem p51_0_0 : pj (regOf Try.f51 0) 0 = some (some 2, .assign (.const (.int .i64 0)), 3, none) := by kernel_rfl
theorem p51_1_0 : pj (regOf Try.f51 1) 0 = some (some 3, .assign (.const (.int .i64 0)), 3, none) := by kernel_rfl
theorem p51_2_0 : pj (regOf Try.f51 2) 0 = some (some 6, .move (.tmp 0), 35, none) := by kernel_rfl
theorem p51_2_1 : pj (regOf Try.f51 2) 1 = some (some 7, .call { callee := .builtin .len, args := #[.tmp 6], argTypes := #[35] }, 3, none) := by kernel_rfl
theorem p51_2_2 : pj (regOf Try.f51 2) 2 = some (some 8, .move (.const (.int .i64 0)), 3, none) := by kernel_rfl
theorem p51_3_0 : pj (regOf Try.f51 3) 0 = some (some 9, .binOp .lss 3 (.tmp 8) (.tmp 7) 3, 0, none) := by kernel_rfl
theorem p51_4_0 : pj (regOf Try.f51 4) 0 = some (some 10, .indexAddr 35 (.tmp 6) (.tmp 8), 0, none) := by kernel_rfl
theorem tS3 : (Try.prog.info? 3).map (·.size) = some 1 := by kernel_rfl
theorem p51_4_1 : pj (regOf Try.f51 4) 1 = some (some 11, .load 3 (.tmp 10), 3, none) := by kernel_rfl
theorem tA3 : (Try.prog.underlying 3).map aggD = some false := by kernel_rfl
theorem p51_4_2 : pj (regOf Try.f51 4) 2 = some (some 5, .assign (.tmp 11), 3, none) := by kernel_rfl
theorem p51_5_0 : pj (regOf Try.f51 5) 0 = some (some 12, .move (.tmp 5), 3, none) := by kernel_rfl
theorem p51_5_1 : pj (regOf Try.f51 5) 1 = some (some 13, .move (.tmp 3), 3, none) := by kernel_rfl
theorem p51_5_2 : pj (regOf Try.f51 5) 2 = some (some 14, .binOp .neq 3 (.tmp 12) (.tmp 13) 3, 4, none) := by kernel_rfl
theorem p51_7_0 : pj (regOf Try.f51 7) 0 = some (some 16, .binOp .add 3 (.tmp 8) (.const (.int .i64 1)) 3, 3, none) := by kernel_rfl
theorem p51_7_1 : pj (regOf Try.f51 7) 1 = some (some 8, .move (.tmp 16), 3, none) := by kernel_rfl
theorem p51_8_0 : pj (regOf Try.f51 8) 0 = some (some 17, .move (.tmp 3), 3, none) := by kernel_rfl
theorem p51_8_1 : pj (regOf Try.f51 8) 1 = some (some 2, .assign (.tmp 17), 3, none) := by kernel_rfl
theorem p51_6_0 : pj (regOf Try.f51 6) 0 = some (some 15, .move (.tmp 5), 3, none) := by kernel_rfl
theorem p51_6_1 : pj (regOf Try.f51 6) 1 = some (some 2, .assign (.tmp 15), 3, none) := by kernel_rfl
set_option maxHeartbeats 4000000 in
theorem or_any (b : Nat) (x y : Int) (w : World) (hb9 : w.heap[b]? = some (.cells #[.int .i64 x, .int .i64 y] 3 (0, 0))) : Calls Try.prog 51 #[.slice (some ⟨b, 0, none⟩) 2 2] w fun e w' => e = .returned (.int .i64 (if x ≠ 0 then x else y)) ∧ Kp w w' (fun _ => False) := by
  have K_0 := Kp.refl w (fun _ => False)
  have B_b := hb9
  refine enter (args := [Value.slice (some ⟨b, 0, none⟩) 2 2]) (n := 18) Try.func51 body51 rfl rfl rfl ?_
  intro a hE
  refine c_reg R51_0_l ?_
  refine q0 p51_0_0 hE (st_assign rfl) ?_
  clear hE a; intro a hE
  refine p_nil ?_
  refine x_norm ?_
  refine c_reg R51_1_l ?_
  refine q0 p51_1_0 hE (st_assign rfl) ?_
  clear hE a; intro a hE
  refine p_nil ?_
  refine x_norm ?_
  refine wp_seq ?_
  refine c_reg R51_2_l ?_
  refine q0 p51_2_0 hE (st_move rfl) ?_
  clear hE a; intro a hE
  refine q0 p51_2_1 hE (st_len Try.underlying35 rfl) ?_
  clear hE a; intro a hE
  refine q0 p51_2_2 hE (st_move rfl) ?_
  clear hE a; intro a hE
  refine p_nil ?_
  refine x_norm ?_
  refine wp_block ?_
  refine wp_loop_rounds 3 ?_
  refine (Eq.mpr (rounds_succ (n := 2)) ?_)
  refine c_reg R51_3_l ?_
  refine q0 p51_3_0 hE (st_lss (b := true) rfl rfl (by decide)) ?_
  clear hE a; intro a hE
  refine p_nil ?_
  refine x_norm ?_
  refine wp_seq ?_
  refine c_cond (t := true) hE rfl ?_
  refine wp_skip ?_
  refine x_norm ?_
  refine wp_seq ?_
  refine wp_block ?_
  refine c_reg R51_4_l ?_
  refine q0 p51_4_0 hE (st_indexAddr (i := 0) Try.underlying35 tS3 rfl rfl (by decide) rfl) ?_
  clear hE a; intro a hE
  refine q0 p51_4_1 hE (st_load1 tA3 rfl ((blk_cell B_b 0).trans rfl)) ?_
  clear hE a; intro a hE
  refine q0 p51_4_2 hE (st_assign rfl) ?_
  clear hE a; intro a hE
  refine p_nil ?_
  refine x_norm ?_
  rcases Decidable.em (x = 0) with hZA | hZA
  ·
    refine c_reg R51_5_l ?_
    refine q0 p51_5_0 hE (st_move rfl) ?_
    clear hE a; intro a hE
    refine q0 p51_5_1 hE (st_move rfl) ?_
    clear hE a; intro a hE
    refine q0 p51_5_2 hE (st_neq (b := false) rfl rfl (by simp [hZA])) ?_
    clear hE a; intro a hE
    refine p_nil ?_
    refine x_norm ?_
    refine c_cond (t := false) hE rfl ?_
    refine wp_skip ?_
    refine x_normB ?_
    refine x_norm ?_
    refine c_regL R51_7_l ?_
    refine q0 p51_7_0 hE (st_add (z := 1) rfl rfl (by decide)) ?_
    clear hE a; intro a hE
    refine q0 p51_7_1 hE (st_move rfl) ?_
    clear hE a; intro a hE
    refine p_nil ?_
    refine x_norm ?_
    refine (Eq.mpr (rounds_succ (n := 1)) ?_)
    refine c_reg R51_3_l ?_
    refine q0 p51_3_0 hE (st_lss (b := true) rfl rfl (by decide)) ?_
    clear hE a; intro a hE
    refine p_nil ?_
    refine x_norm ?_
    refine wp_seq ?_
    refine c_cond (t := true) hE rfl ?_
    refine wp_skip ?_
    refine x_norm ?_
    refine wp_seq ?_
    refine wp_block ?_
    refine c_reg R51_4_l ?_
    refine q0 p51_4_0 hE (st_indexAddr (i := 1) Try.underlying35 tS3 rfl rfl (by decide) rfl) ?_
    clear hE a; intro a hE
    refine q0 p51_4_1 hE (st_load1 tA3 rfl ((blk_cell B_b 1).trans rfl)) ?_
    clear hE a; intro a hE
    refine q0 p51_4_2 hE (st_assign rfl) ?_
    clear hE a; intro a hE
    refine p_nil ?_
    refine x_norm ?_
    rcases Decidable.em (y = 0) with hZB | hZB
    ·
      refine c_reg R51_5_l ?_
      refine q0 p51_5_0 hE (st_move rfl) ?_
      clear hE a; intro a hE
      refine q0 p51_5_1 hE (st_move rfl) ?_
      clear hE a; intro a hE
      refine q0 p51_5_2 hE (st_neq (b := false) rfl rfl (by simp [hZB])) ?_
      clear hE a; intro a hE
      refine p_nil ?_
      refine x_norm ?_
      refine c_cond (t := false) hE rfl ?_
      refine wp_skip ?_
      refine x_normB ?_
      refine x_norm ?_
      refine c_regL R51_7_l ?_
      refine q0 p51_7_0 hE (st_add (z := 2) rfl rfl (by decide)) ?_
      clear hE a; intro a hE
      refine q0 p51_7_1 hE (st_move rfl) ?_
      clear hE a; intro a hE
      refine p_nil ?_
      refine x_norm ?_
      refine (Eq.mpr (rounds_succ (n := 0)) ?_)
      refine c_reg R51_3_l ?_
      refine q0 p51_3_0 hE (st_lss (b := false) rfl rfl (by decide)) ?_
      clear hE a; intro a hE
      refine p_nil ?_
      refine x_norm ?_
      refine wp_seq ?_
      refine c_cond (t := false) hE rfl ?_
      refine wp_exit ?_
      refine x_exit ?_
      refine x_exit ?_
      refine x_in ?_
      refine x_norm ?_
      refine c_reg R51_8_l ?_
      refine q0 p51_8_0 hE (st_move rfl) ?_
      clear hE a; intro a hE
      refine q0 p51_8_1 hE (st_assign rfl) ?_
      clear hE a; intro a hE
      refine p_nil ?_
      refine x_norm ?_
      refine wp_ret ?_
      refine ret_one (v := Value.int .i64 0) rfl hE (.tmp rfl .nil) ?_
      exact ⟨by simp [hZA, hZB], K_0⟩
    ·
      refine c_reg R51_5_l ?_
      refine q0 p51_5_0 hE (st_move rfl) ?_
      clear hE a; intro a hE
      refine q0 p51_5_1 hE (st_move rfl) ?_
      clear hE a; intro a hE
      refine q0 p51_5_2 hE (st_neq (b := true) rfl rfl (by simp [hZB])) ?_
      clear hE a; intro a hE
      refine p_nil ?_
      refine x_norm ?_
      refine c_cond (t := true) hE rfl ?_
      refine c_reg R51_6_l ?_
      refine q0 p51_6_0 hE (st_move rfl) ?_
      clear hE a; intro a hE
      refine q0 p51_6_1 hE (st_assign rfl) ?_
      clear hE a; intro a hE
      refine p_nil ?_
      refine x_norm ?_
      refine wp_ret ?_
      refine x_retB ?_
      refine x_ret ?_
      refine x_ret ?_
      refine x_retB ?_
      refine x_ret ?_
      refine ret_one (v := Value.int .i64 y) rfl hE (.tmp rfl .nil) ?_
      exact ⟨by simp [hZA], K_0⟩
  ·
    refine c_reg R51_5_l ?_
    refine q0 p51_5_0 hE (st_move rfl) ?_
    clear hE a; intro a hE
    refine q0 p51_5_1 hE (st_move rfl) ?_
    clear hE a; intro a hE
    refine q0 p51_5_2 hE (st_neq (b := true) rfl rfl (by simp [hZA])) ?_
    clear hE a; intro a hE
    refine p_nil ?_
    refine x_norm ?_
    refine c_cond (t := true) hE rfl ?_
    refine c_reg R51_6_l ?_
    refine q0 p51_6_0 hE (st_move rfl) ?_
    clear hE a; intro a hE
    refine q0 p51_6_1 hE (st_assign rfl) ?_
    clear hE a; intro a hE
    refine p_nil ?_
    refine x_norm ?_
    refine wp_ret ?_
    refine x_retB ?_
    refine x_ret ?_
    refine x_ret ?_
    refine x_retB ?_
    refine x_ret ?_
    refine ret_one (v := Value.int .i64 x) rfl hE (.tmp rfl .nil) ?_
    exact ⟨by simp [hZA], K_0⟩
theorem due_enc (l : LW) (x : Int) : ((getI l x).map (Value.int .i64)).getD (.int .i64 0) = .int .i64 (dueI l x) := by
  unfold dueI
  cases getI l x <;> rfl
theorem R50_0_l : List.range (regOf Try.f50 0).size = [0] := by kernel_rfl
theorem R50_1_l : List.range (regOf Try.f50 1).size = [0, 1, 2, 3, 4, 5, 6, 7, 8, 9, 10, 11, 12, 13, 14, 15, 16, 17, 18] := by kernel_rfl
theorem body50 : Try.f50.body = some (.seq (.region 0 (regOf Try.f50 0) false) (.seq (.region 1 (regOf Try.f50 1) true) (.ret))) := by kernel_rfl
theorem p50_0_0 : pj (regOf Try.f50 0) 0 = some (some 5, .assign (.const (.int .i64 0)), 3, none) := by kernel_rfl
theorem ns50_1 : Region.noSelect (regOf Try.f50 1) = true := by kernel_rfl
theorem p50_1_0 : pj (regOf Try.f50 1) 0 = some (some 6, .load 24 (.tmp 2), 24, none) := by kernel_rfl
theorem tA24 : (Try.prog.underlying 24).map aggD = some false := by kernel_rfl
theorem p50_1_1 : pj (regOf Try.f50 1) 1 = some (some 7, .nilCheck (.tmp 6), 0, none) := by kernel_rfl
theorem p50_1_2 : pj (regOf Try.f50 1) 2 = some (some 8, .fieldAddr 29 (.tmp 7) 1, 0, none) := by kernel_rfl
theorem tS27 : (Try.prog.info? 27).map (·.size) = some 1 := by kernel_rfl
theorem p50_1_3 : pj (regOf Try.f50 1) 3 = some (some 9, .load 27 (.tmp 8), 27, none) := by kernel_rfl
theorem tA27 : (Try.prog.underlying 27).map aggD = some false := by kernel_rfl
theorem p50_1_4 : pj (regOf Try.f50 1) 4 = some (some 10, .move (.tmp 0), 3, none) := by kernel_rfl
theorem p50_1_6 : pj (regOf Try.f50 1) 6 = some (some 12, .load 24 (.tmp 2), 24, none) := by kernel_rfl
theorem p50_1_7 : pj (regOf Try.f50 1) 7 = some (some 13, .nilCheck (.tmp 12), 0, none) := by kernel_rfl
theorem p50_1_8 : pj (regOf Try.f50 1) 8 = some (some 14, .fieldAddr 29 (.tmp 13) 1, 0, none) := by kernel_rfl
theorem p50_1_9 : pj (regOf Try.f50 1) 9 = some (some 15, .load 27 (.tmp 14), 27, none) := by kernel_rfl
theorem p50_1_10 : pj (regOf Try.f50 1) 10 = some (some 16, .move (.tmp 1), 3, none) := by kernel_rfl
theorem p50_1_13 : pj (regOf Try.f50 1) 13 = some (some 19, .move (.tmp 0), 3, none) := by kernel_rfl
theorem p50_1_14 : pj (regOf Try.f50 1) 14 = some (some 20, .move (.tmp 1), 3, none) := by kernel_rfl
theorem p50_1_5 : pj (regOf Try.f50 1) 5 = some (some 11, .lookup 27 (.tmp 9) (.tmp 10) false, 3, none) := by kernel_rfl
theorem tZ3 : (Try.prog.info? 3).bind (·.zero) = some (Value.int .i64 0) := by kernel_rfl
theorem p50_1_11 : pj (regOf Try.f50 1) 11 = some (some 17, .lookup 27 (.tmp 15) (.tmp 16) false, 3, none) := by kernel_rfl
theorem p50_1_12 : pj (regOf Try.f50 1) 12 = some (some 18, .call { callee := .value (.func 52), args := #[.tmp 11, .tmp 17], argTypes := #[3, 3] }, 3, none) := by kernel_rfl
theorem cl52 : callable Try.f52 = true := by kernel_rfl
theorem p50_1_15 : pj (regOf Try.f50 1) 15 = some (some 21, .call { callee := .value (.func 52), args := #[.tmp 19, .tmp 20], argTypes := #[3, 3] }, 3, none) := by kernel_rfl
theorem p50_1_16 : pj (regOf Try.f50 1) 16 = some (some 22, .buildSlice 35 2 #[(0, .tmp 18), (1, .tmp 21)], 35, none) := by kernel_rfl
theorem p50_1_17 : pj (regOf Try.f50 1) 17 = some (some 23, .call { callee := .value (.func 51), args := #[.tmp 22], argTypes := #[35] }, 3, none) := by kernel_rfl
theorem cl51 : callable Try.f51 = true := by kernel_rfl
theorem p50_1_18 : pj (regOf Try.f50 1) 18 = some (some 5, .assign (.tmp 23), 3, none) := by kernel_rfl
set_option maxHeartbeats 4000000 in
theorem clo_any (g gm ck : Nat) (es : Array MapEntry) (l : Wp.LW) (now : Int) (gx : Nat) (x y : Int) (w : World) (hx : w.heap[gx]? = some (.cells #[.pointer (some ⟨g, 0, none⟩)] 24 (0, 0))) (hg : w.heap[g]? = some (.cells #[.int .i64 now, .map (some gm)] 29 (0, 0))) (hm : w.heap[gm]? = some (.map es ck)) (hF : MapI (Value.int .i64) es ck l) (hne : g ≠ gm) : Calls Try.prog 50 #[.int .i64 x, .int .i64 y, .pointer (some ⟨gx, 0, none⟩)] w fun e w' => e = .returned (.int .i64 (cfX l x y)) ∧ Kp w w' (fun _ => False) := by
  have K_0 := Kp.refl w (fun _ => False)
  have B_g := hg
  have B_gm := hm
  have n_g_gm := hne
  have B_gx := hx
  refine enter (args := [Value.int .i64 x, Value.int .i64 y, Value.pointer (some ⟨gx, 0, none⟩)]) (n := 24) Try.func50 body50 rfl rfl rfl ?_
  intro a hE
  refine c_reg R50_0_l ?_
  refine q0 p50_0_0 hE (st_assign rfl) ?_
  clear hE a; intro a hE
  refine p_nil ?_
  refine x_norm ?_
  refine c_drawMS (S := fun W => W.heap[g]? = some (.cells #[Value.int .i64 now, Value.map (some gm)] 29 (0, 0)) ∧ W.heap[gm]? = some (.map es ck) ∧ W.heap[gx]? = some (.cells #[Value.pointer (some ⟨g, 0, none⟩)] 24 (0, 0)) ∧ True) rfl rfl (listed := #[false, false, false, false, false, false, false, false, false, false, false, false, false, false, false, false, false, false, false]) rfl pan_body (fun QQ hQ hend => ?_)
  have dr1_7 : ∀ (g1_16 : Nat) (W : World) (a : Act), En 24 a [(0, Value.int .i64 x), (1, Value.int .i64 y), (2, Value.pointer (some ⟨gx, 0, none⟩)), (5, Value.int .i64 (if (cmpI (dueI l x) (dueI l y)) ≠ 0 then (cmpI (dueI l x) (dueI l y)) else (cmpI x y))), (6, Value.pointer (some ⟨g, 0, none⟩)), (7, Value.pointer (some ⟨g, 0, none⟩)), (8, Value.pointer (some ⟨g, 1, none⟩)), (9, Value.map (some gm)), (10, Value.int .i64 x), (11, Value.int .i64 (dueI l x)), (12, Value.pointer (some ⟨g, 0, none⟩)), (13, Value.pointer (some ⟨g, 0, none⟩)), (14, Value.pointer (some ⟨g, 1, none⟩)), (15, Value.map (some gm)), (16, Value.int .i64 y), (17, Value.int .i64 (dueI l y)), (18, Value.int .i64 (cmpI (dueI l x) (dueI l y))), (19, Value.int .i64 x), (20, Value.int .i64 y), (21, Value.int .i64 (cmpI x y)), (22, Value.slice (some ⟨g1_16, 0, none⟩) 2 2), (23, Value.int .i64 (if (cmpI (dueI l x) (dueI l y)) ≠ 0 then (cmpI (dueI l x) (dueI l y)) else (cmpI x y)))] → W.heap[g]? = some (.cells #[Value.int .i64 now, Value.map (some gm)] 29 (0, 0)) → W.heap[gm]? = some (.map es ck) → W.heap[gx]? = some (.cells #[Value.pointer (some ⟨g, 0, none⟩)] 24 (0, 0)) → W.heap[g1_16]? = some (.cells #[Value.int .i64 (cmpI (dueI l x) (dueI l y)), Value.int .i64 (cmpI x y)] 3 (0, 0)) → g ≠ g1_16 → g1_16 ≠ gm → g1_16 ≠ gx → w.heap.size ≤ g1_16 → Kp w W (fun _ => False) → wpAnyH Try.prog .any (regOf Try.f50 1) QQ (fun W => W.heap[g]? = some (.cells #[Value.int .i64 now, Value.map (some gm)] 29 (0, 0)) ∧ W.heap[gm]? = some (.map es ck) ∧ W.heap[gx]? = some (.cells #[Value.pointer (some ⟨g, 0, none⟩)] 24 (0, 0)) ∧ True) 0 #[true, true, true, true, true, true, true, true, true, true, true, true, true, true, true, true, true, true, true] a W := by
    intro g1_16 w7 a hE B_g B_gm B_gx B_g1_16 n_g_g1_16 n_g1_16_gm n_g1_16_gx z_0_g1_16 K_0
    refine d_end (by kernel_rfl) (hend _ _ ?_)
    refine wp_ret ?_
    refine ret_one (v := Value.int .i64 (if (cmpI (dueI l x) (dueI l y)) ≠ 0 then (cmpI (dueI l x) (dueI l y)) else (cmpI x y))) rfl hE (.tmp rfl .nil) ?_
    exact ⟨rfl, K_0⟩
  have dr1_6 : ∀ (g1_16 : Nat) (W : World) (a : Act), En 24 a [(0, Value.int .i64 x), (1, Value.int .i64 y), (2, Value.pointer (some ⟨gx, 0, none⟩)), (5, Value.int .i64 0), (6, Value.pointer (some ⟨g, 0, none⟩)), (7, Value.pointer (some ⟨g, 0, none⟩)), (8, Value.pointer (some ⟨g, 1, none⟩)), (9, Value.map (some gm)), (10, Value.int .i64 x), (11, Value.int .i64 (dueI l x)), (12, Value.pointer (some ⟨g, 0, none⟩)), (13, Value.pointer (some ⟨g, 0, none⟩)), (14, Value.pointer (some ⟨g, 1, none⟩)), (15, Value.map (some gm)), (16, Value.int .i64 y), (17, Value.int .i64 (dueI l y)), (18, Value.int .i64 (cmpI (dueI l x) (dueI l y))), (19, Value.int .i64 x), (20, Value.int .i64 y), (21, Value.int .i64 (cmpI x y)), (22, Value.slice (some ⟨g1_16, 0, none⟩) 2 2)] → W.heap[g]? = some (.cells #[Value.int .i64 now, Value.map (some gm)] 29 (0, 0)) → W.heap[gm]? = some (.map es ck) → W.heap[gx]? = some (.cells #[Value.pointer (some ⟨g, 0, none⟩)] 24 (0, 0)) → W.heap[g1_16]? = some (.cells #[Value.int .i64 (cmpI (dueI l x) (dueI l y)), Value.int .i64 (cmpI x y)] 3 (0, 0)) → g ≠ g1_16 → g1_16 ≠ gm → g1_16 ≠ gx → w.heap.size ≤ g1_16 → Kp w W (fun _ => False) → wpAnyH Try.prog .any (regOf Try.f50 1) QQ (fun W => W.heap[g]? = some (.cells #[Value.int .i64 now, Value.map (some gm)] 29 (0, 0)) ∧ W.heap[gm]? = some (.map es ck) ∧ W.heap[gx]? = some (.cells #[Value.pointer (some ⟨g, 0, none⟩)] 24 (0, 0)) ∧ True) 2 #[true, true, true, true, true, true, true, true, true, true, true, true, true, true, true, true, true, false, false] a W := by
    intro g1_16 w8 a hE B_g B_gm B_gx B_g1_16 n_g_g1_16 n_g1_16_gm n_g1_16_gx z_0_g1_16 K_0
    refine d_all (rs := [17]) (by kernel_rfl) rfl ?_
    refine all_cons (d_lit (listed' := #[true, true, true, true, true, true, true, true, true, true, true, true, true, true, true, true, true, true, false]) rfl ?_) ?_
    ·
      refine (s_call (xs := [Operand.tmp 22]) (args := [Value.slice (some ⟨g1_16, 0, none⟩) 2 2]) p50_1_17 hE wn_none rfl rfl Try.func51 cl51 (or_any g1_16 (cmpI (dueI l x) (dueI l y)) (cmpI x y) _ B_g1_16) ?_)
      rintro e w9 ⟨rfl, hk⟩
      replace B_g := kp_blk B_g hk (fun h => h)
      replace B_gm := kp_blk B_gm hk (fun h => h)
      replace B_gx := kp_blk B_gx hk (fun h => h)
      replace B_g1_16 := kp_blk B_g1_16 hk (fun h => h)
      replace K_0 := K_0.then_ hk (fun _ h => h.elim)
      refine ⟨_, rfl, ?_⟩
      clear hE a; intro a hE
      refine ⟨⟨B_g, B_gm, B_gx, trivial⟩, ?_⟩
      refine d_take (v := Value.int .i64 (if (cmpI (dueI l x) (dueI l y)) ≠ 0 then (cmpI (dueI l x) (dueI l y)) else (cmpI x y))) p50_1_18 ns50_1 (by kernel_rfl) (by kernel_rfl) (fun c a w h => hQ c a _ _ w h) hE wn_none rfl ⟨B_g, B_gm, B_gx, trivial⟩ (fun W hS => (st_assign rfl)) (listed' := #[true, true, true, true, true, true, true, true, true, true, true, true, true, true, true, true, true, true, true]) rfl ?_
      clear hE a; intro a hE
      exact dr1_7 g1_16 _ a (En.sub hE ⟨rfl, rfl, rfl, rfl, rfl, rfl, rfl, rfl, rfl, rfl, rfl, rfl, rfl, rfl, rfl, rfl, rfl, rfl, rfl, rfl, rfl, rfl, trivial⟩) B_g B_gm B_gx B_g1_16 n_g_g1_16 n_g1_16_gm n_g1_16_gx z_0_g1_16 K_0
    exact all_nil
  have dr1_5 : ∀ (W : World) (a : Act), En 24 a [(0, Value.int .i64 x), (1, Value.int .i64 y), (2, Value.pointer (some ⟨gx, 0, none⟩)), (5, Value.int .i64 0), (6, Value.pointer (some ⟨g, 0, none⟩)), (7, Value.pointer (some ⟨g, 0, none⟩)), (8, Value.pointer (some ⟨g, 1, none⟩)), (9, Value.map (some gm)), (10, Value.int .i64 x), (11, Value.int .i64 (dueI l x)), (12, Value.pointer (some ⟨g, 0, none⟩)), (13, Value.pointer (some ⟨g, 0, none⟩)), (14, Value.pointer (some ⟨g, 1, none⟩)), (15, Value.map (some gm)), (16, Value.int .i64 y), (17, Value.int .i64 (dueI l y)), (18, Value.int .i64 (cmpI (dueI l x) (dueI l y))), (19, Value.int .i64 x), (20, Value.int .i64 y), (21, Value.int .i64 (cmpI x y))] → W.heap[g]? = some (.cells #[Value.int .i64 now, Value.map (some gm)] 29 (0, 0)) → W.heap[gm]? = some (.map es ck) → W.heap[gx]? = some (.cells #[Value.pointer (some ⟨g, 0, none⟩)] 24 (0, 0)) → Kp w W (fun _ => False) → wpAnyH Try.prog .any (regOf Try.f50 1) QQ (fun W => W.heap[g]? = some (.cells #[Value.int .i64 now, Value.map (some gm)] 29 (0, 0)) ∧ W.heap[gm]? = some (.map es ck) ∧ W.heap[gx]? = some (.cells #[Value.pointer (some ⟨g, 0, none⟩)] 24 (0, 0)) ∧ True) 3 #[true, true, true, true, true, true, true, true, true, true, true, true, true, true, true, true, false, false, false] a W := by
    intro w10 a hE B_g B_gm B_gx K_0
    refine d_all (rs := [16]) (by kernel_rfl) rfl ?_
    refine all_cons (d_lit (listed' := #[true, true, true, true, true, true, true, true, true, true, true, true, true, true, true, true, true, false, false]) rfl ?_) ?_
    ·
      refine (s_row (xs := [(0, Operand.tmp 18), (1, Operand.tmp 21)]) (vs := [(0, Value.int .i64 (cmpI (dueI l x) (dueI l y))), (1, Value.int .i64 (cmpI x y))]) (cs := #[Value.int .i64 (cmpI (dueI l x) (dueI l y)), Value.int .i64 (cmpI x y)]) p50_1_16 hE wn_none rfl Try.underlying35 rfl (by kernel_rfl) ?_)
      clear hE a; intro g1_16 w11 z12 B_g1_16 hk a hE
      have n_g_g1_16 : g ≠ g1_16 := ne_new B_g z12
      have n_gm_g1_16 : gm ≠ g1_16 := ne_new B_gm z12
      have n_gx_g1_16 : gx ≠ g1_16 := ne_new B_gx z12
      have z_0_g1_16 := Nat.le_trans K_0.kept.1 z12
      replace B_g := kp_blk B_g hk (fun h => h)
      replace B_gm := kp_blk B_gm hk (fun h => h)
      replace B_gx := kp_blk B_gx hk (fun h => h)
      replace K_0 := K_0.then_ hk (fun _ h => h.elim)
      clear hk
      refine ⟨⟨B_g, B_gm, B_gx, trivial⟩, ?_⟩
      have n_g1_16_gm := Ne.symm n_gm_g1_16
      have n_g1_16_gx := Ne.symm n_gx_g1_16
      exact dr1_6 g1_16 _ a (En.sub hE ⟨rfl, rfl, rfl, rfl, rfl, rfl, rfl, rfl, rfl, rfl, rfl, rfl, rfl, rfl, rfl, rfl, rfl, rfl, rfl, rfl, rfl, trivial⟩) B_g B_gm B_gx B_g1_16 n_g_g1_16 n_g1_16_gm n_g1_16_gx z_0_g1_16 K_0
    exact all_nil
  have dr1_4 : ∀ (W : World) (a : Act), En 24 a [(0, Value.int .i64 x), (1, Value.int .i64 y), (2, Value.pointer (some ⟨gx, 0, none⟩)), (5, Value.int .i64 0), (6, Value.pointer (some ⟨g, 0, none⟩)), (7, Value.pointer (some ⟨g, 0, none⟩)), (8, Value.pointer (some ⟨g, 1, none⟩)), (9, Value.map (some gm)), (10, Value.int .i64 x), (11, Value.int .i64 (dueI l x)), (12, Value.pointer (some ⟨g, 0, none⟩)), (13, Value.pointer (some ⟨g, 0, none⟩)), (14, Value.pointer (some ⟨g, 1, none⟩)), (15, Value.map (some gm)), (16, Value.int .i64 y), (17, Value.int .i64 (dueI l y)), (18, Value.int .i64 (cmpI (dueI l x) (dueI l y))), (19, Value.int .i64 x), (20, Value.int .i64 y)] → W.heap[g]? = some (.cells #[Value.int .i64 now, Value.map (some gm)] 29 (0, 0)) → W.heap[gm]? = some (.map es ck) → W.heap[gx]? = some (.cells #[Value.pointer (some ⟨g, 0, none⟩)] 24 (0, 0)) → Kp w W (fun _ => False) → wpAnyH Try.prog .any (regOf Try.f50 1) QQ (fun W => W.heap[g]? = some (.cells #[Value.int .i64 now, Value.map (some gm)] 29 (0, 0)) ∧ W.heap[gm]? = some (.map es ck) ∧ W.heap[gx]? = some (.cells #[Value.pointer (some ⟨g, 0, none⟩)] 24 (0, 0)) ∧ True) 4 #[true, true, true, true, true, true, true, true, true, true, true, true, true, true, true, false, false, false, false] a W := by
    intro w13 a hE B_g B_gm B_gx K_0
    refine d_all (rs := [15]) (by kernel_rfl) rfl ?_
    refine all_cons (d_lit (listed' := #[true, true, true, true, true, true, true, true, true, true, true, true, true, true, true, true, false, false, false]) rfl ?_) ?_
    ·
      refine (s_call (xs := [Operand.tmp 19, Operand.tmp 20]) (args := [Value.int .i64 x, Value.int .i64 y]) p50_1_15 hE wn_none rfl rfl Try.func52 cl52 (cmp_any x y _) ?_)
      rintro e w14 ⟨rfl, hk⟩
      replace B_g := kp_blk B_g hk (fun h => h)
      replace B_gm := kp_blk B_gm hk (fun h => h)
      replace B_gx := kp_blk B_gx hk (fun h => h)
      replace K_0 := K_0.then_ hk (fun _ h => h.elim)
      refine ⟨_, rfl, ?_⟩
      clear hE a; intro a hE
      refine ⟨⟨B_g, B_gm, B_gx, trivial⟩, ?_⟩
      exact dr1_5 _ a (En.sub hE ⟨rfl, rfl, rfl, rfl, rfl, rfl, rfl, rfl, rfl, rfl, rfl, rfl, rfl, rfl, rfl, rfl, rfl, rfl, rfl, rfl, trivial⟩) B_g B_gm B_gx K_0
    exact all_nil
  have dr1_3 : ∀ (W : World) (a : Act), En 24 a [(0, Value.int .i64 x), (1, Value.int .i64 y), (2, Value.pointer (some ⟨gx, 0, none⟩)), (5, Value.int .i64 0), (6, Value.pointer (some ⟨g, 0, none⟩)), (7, Value.pointer (some ⟨g, 0, none⟩)), (8, Value.pointer (some ⟨g, 1, none⟩)), (9, Value.map (some gm)), (10, Value.int .i64 x), (11, Value.int .i64 (dueI l x)), (12, Value.pointer (some ⟨g, 0, none⟩)), (13, Value.pointer (some ⟨g, 0, none⟩)), (14, Value.pointer (some ⟨g, 1, none⟩)), (15, Value.map (some gm)), (16, Value.int .i64 y), (17, Value.int .i64 (dueI l y)), (19, Value.int .i64 x), (20, Value.int .i64 y)] → W.heap[g]? = some (.cells #[Value.int .i64 now, Value.map (some gm)] 29 (0, 0)) → W.heap[gm]? = some (.map es ck) → W.heap[gx]? = some (.cells #[Value.pointer (some ⟨g, 0, none⟩)] 24 (0, 0)) → Kp w W (fun _ => False) → wpAnyH Try.prog .any (regOf Try.f50 1) QQ (fun W => W.heap[g]? = some (.cells #[Value.int .i64 now, Value.map (some gm)] 29 (0, 0)) ∧ W.heap[gm]? = some (.map es ck) ∧ W.heap[gx]? = some (.cells #[Value.pointer (some ⟨g, 0, none⟩)] 24 (0, 0)) ∧ True) 5 #[true, true, true, true, true, true, true, true, true, true, true, true, false, true, true, false, false, false, false] a W := by
    intro w15 a hE B_g B_gm B_gx K_0
    refine d_all (rs := [12]) (by kernel_rfl) rfl ?_
    refine all_cons (d_lit (listed' := #[true, true, true, true, true, true, true, true, true, true, true, true, true, true, true, false, false, false, false]) rfl ?_) ?_
    ·
      refine (s_call (xs := [Operand.tmp 11, Operand.tmp 17]) (args := [Value.int .i64 (dueI l x), Value.int .i64 (dueI l y)]) p50_1_12 hE wn_none rfl rfl Try.func52 cl52 (cmp_any (dueI l x) (dueI l y) _) ?_)
      rintro e w16 ⟨rfl, hk⟩
      replace B_g := kp_blk B_g hk (fun h => h)
      replace B_gm := kp_blk B_gm hk (fun h => h)
      replace B_gx := kp_blk B_gx hk (fun h => h)
      replace K_0 := K_0.then_ hk (fun _ h => h.elim)
      refine ⟨_, rfl, ?_⟩
      clear hE a; intro a hE
      refine ⟨⟨B_g, B_gm, B_gx, trivial⟩, ?_⟩
      exact dr1_4 _ a (En.sub hE ⟨rfl, rfl, rfl, rfl, rfl, rfl, rfl, rfl, rfl, rfl, rfl, rfl, rfl, rfl, rfl, rfl, rfl, rfl, rfl, trivial⟩) B_g B_gm B_gx K_0
    exact all_nil
  have dr1_2 : ∀ (W : World) (a : Act), En 24 a [(0, Value.int .i64 x), (1, Value.int .i64 y), (2, Value.pointer (some ⟨gx, 0, none⟩)), (5, Value.int .i64 0), (6, Value.pointer (some ⟨g, 0, none⟩)), (7, Value.pointer (some ⟨g, 0, none⟩)), (8, Value.pointer (some ⟨g, 1, none⟩)), (9, Value.map (some gm)), (10, Value.int .i64 x), (12, Value.pointer (some ⟨g, 0, none⟩)), (13, Value.pointer (some ⟨g, 0, none⟩)), (14, Value.pointer (some ⟨g, 1, none⟩)), (15, Value.map (some gm)), (16, Value.int .i64 y), (17, Value.int .i64 (dueI l y)), (19, Value.int .i64 x), (20, Value.int .i64 y)] → W.heap[g]? = some (.cells #[Value.int .i64 now, Value.map (some gm)] 29 (0, 0)) → W.heap[gm]? = some (.map es ck) → W.heap[gx]? = some (.cells #[Value.pointer (some ⟨g, 0, none⟩)] 24 (0, 0)) → Kp w W (fun _ => False) → wpAnyH Try.prog .any (regOf Try.f50 1) QQ (fun W => W.heap[g]? = some (.cells #[Value.int .i64 now, Value.map (some gm)] 29 (0, 0)) ∧ W.heap[gm]? = some (.map es ck) ∧ W.heap[gx]? = some (.cells #[Value.pointer (some ⟨g, 0, none⟩)] 24 (0, 0)) ∧ True) 6 #[true, true, true, true, true, false, true, true, true, true, true, true, false, true, true, false, false, false, false] a W := by
    intro w17 a hE B_g B_gm B_gx K_0
    refine d_all (rs := [5]) (by kernel_rfl) rfl ?_
    refine all_cons (d_lit (listed' := #[true, true, true, true, true, true, true, true, true, true, true, true, false, true, true, false, false, false, false]) rfl ?_) ?_
    ·
      refine (s_still (v := Value.int .i64 (dueI l x)) p50_1_5 hE wn_none rfl (Mi.st_look1 Try.underlying27 Try.underlying3 tZ3 rfl rfl hF B_gm (due_enc _ _)) ?_)
      clear hE a; intro a hE
      refine ⟨⟨B_g, B_gm, B_gx, trivial⟩, ?_⟩
      exact dr1_3 _ a (En.sub hE ⟨rfl, rfl, rfl, rfl, rfl, rfl, rfl, rfl, rfl, rfl, rfl, rfl, rfl, rfl, rfl, rfl, rfl, rfl, trivial⟩) B_g B_gm B_gx K_0
    exact all_nil
  have dr1_1 : ∀ (W : World) (a : Act), En 24 a [(0, Value.int .i64 x), (1, Value.int .i64 y), (2, Value.pointer (some ⟨gx, 0, none⟩)), (5, Value.int .i64 0), (6, Value.pointer (some ⟨g, 0, none⟩)), (7, Value.pointer (some ⟨g, 0, none⟩)), (8, Value.pointer (some ⟨g, 1, none⟩)), (9, Value.map (some gm)), (10, Value.int .i64 x), (11, Value.int .i64 (dueI l x)), (12, Value.pointer (some ⟨g, 0, none⟩)), (13, Value.pointer (some ⟨g, 0, none⟩)), (14, Value.pointer (some ⟨g, 1, none⟩)), (15, Value.map (some gm)), (16, Value.int .i64 y), (19, Value.int .i64 x), (20, Value.int .i64 y)] → W.heap[g]? = some (.cells #[Value.int .i64 now, Value.map (some gm)] 29 (0, 0)) → W.heap[gm]? = some (.map es ck) → W.heap[gx]? = some (.cells #[Value.pointer (some ⟨g, 0, none⟩)] 24 (0, 0)) → Kp w W (fun _ => False) → wpAnyH Try.prog .any (regOf Try.f50 1) QQ (fun W => W.heap[g]? = some (.cells #[Value.int .i64 now, Value.map (some gm)] 29 (0, 0)) ∧ W.heap[gm]? = some (.map es ck) ∧ W.heap[gx]? = some (.cells #[Value.pointer (some ⟨g, 0, none⟩)] 24 (0, 0)) ∧ True) 6 #[true, true, true, true, true, true, true, true, true, true, true, false, false, true, true, false, false, false, false] a W := by
    intro w18 a hE B_g B_gm B_gx K_0
    refine d_all (rs := [11]) (by kernel_rfl) rfl ?_
    refine all_cons (d_lit (listed' := #[true, true, true, true, true, true, true, true, true, true, true, true, false, true, true, false, false, false, false]) rfl ?_) ?_
    ·
      refine (s_still (v := Value.int .i64 (dueI l y)) p50_1_11 hE wn_none rfl (Mi.st_look1 Try.underlying27 Try.underlying3 tZ3 rfl rfl hF B_gm (due_enc _ _)) ?_)
      clear hE a; intro a hE
      refine ⟨⟨B_g, B_gm, B_gx, trivial⟩, ?_⟩
      exact dr1_3 _ a (En.sub hE ⟨rfl, rfl, rfl, rfl, rfl, rfl, rfl, rfl, rfl, rfl, rfl, rfl, rfl, rfl, rfl, rfl, rfl, rfl, trivial⟩) B_g B_gm B_gx K_0
    exact all_nil
  have dr1_0 : ∀ (W : World) (a : Act), En 24 a [(0, Value.int .i64 x), (1, Value.int .i64 y), (2, Value.pointer (some ⟨gx, 0, none⟩)), (5, Value.int .i64 0), (6, Value.pointer (some ⟨g, 0, none⟩)), (7, Value.pointer (some ⟨g, 0, none⟩)), (8, Value.pointer (some ⟨g, 1, none⟩)), (9, Value.map (some gm)), (10, Value.int .i64 x), (12, Value.pointer (some ⟨g, 0, none⟩)), (13, Value.pointer (some ⟨g, 0, none⟩)), (14, Value.pointer (some ⟨g, 1, none⟩)), (15, Value.map (some gm)), (16, Value.int .i64 y), (19, Value.int .i64 x), (20, Value.int .i64 y)] → W.heap[g]? = some (.cells #[Value.int .i64 now, Value.map (some gm)] 29 (0, 0)) → W.heap[gm]? = some (.map es ck) → W.heap[gx]? = some (.cells #[Value.pointer (some ⟨g, 0, none⟩)] 24 (0, 0)) → Kp w W (fun _ => False) → wpAnyH Try.prog .any (regOf Try.f50 1) QQ (fun W => W.heap[g]? = some (.cells #[Value.int .i64 now, Value.map (some gm)] 29 (0, 0)) ∧ W.heap[gm]? = some (.map es ck) ∧ W.heap[gx]? = some (.cells #[Value.pointer (some ⟨g, 0, none⟩)] 24 (0, 0)) ∧ True) 7 #[true, true, true, true, true, false, true, true, true, true, true, false, false, true, true, false, false, false, false] a W := by
    intro w19 a hE B_g B_gm B_gx K_0
    refine d_all (rs := [5, 11]) (by kernel_rfl) rfl ?_
    refine all_cons (d_lit (listed' := #[true, true, true, true, true, true, true, true, true, true, true, false, false, true, true, false, false, false, false]) rfl ?_) ?_
    ·
      refine (s_still (v := Value.int .i64 (dueI l x)) p50_1_5 hE wn_none rfl (Mi.st_look1 Try.underlying27 Try.underlying3 tZ3 rfl rfl hF B_gm (due_enc _ _)) ?_)
      clear hE a; intro a hE
      refine ⟨⟨B_g, B_gm, B_gx, trivial⟩, ?_⟩
      exact dr1_1 _ a (En.sub hE ⟨rfl, rfl, rfl, rfl, rfl, rfl, rfl, rfl, rfl, rfl, rfl, rfl, rfl, rfl, rfl, rfl, rfl, trivial⟩) B_g B_gm B_gx K_0
    refine all_cons (d_lit (listed' := #[true, true, true, true, true, false, true, true, true, true, true, true, false, true, true, false, false, false, false]) rfl ?_) ?_
    ·
      refine (s_still (v := Value.int .i64 (dueI l y)) p50_1_11 hE wn_none rfl (Mi.st_look1 Try.underlying27 Try.underlying3 tZ3 rfl rfl hF B_gm (due_enc _ _)) ?_)
      clear hE a; intro a hE
      refine ⟨⟨B_g, B_gm, B_gx, trivial⟩, ?_⟩
      exact dr1_2 _ a (En.sub hE ⟨rfl, rfl, rfl, rfl, rfl, rfl, rfl, rfl, rfl, rfl, rfl, rfl, rfl, rfl, rfl, rfl, rfl, trivial⟩) B_g B_gm B_gx K_0
    exact all_nil
  intro w1 hh hk
  replace B_g := kp_blk B_g hk (fun h => h)
  replace B_gm := kp_blk B_gm hk (fun h => h)
  replace B_gx := kp_blk B_gx hk (fun h => h)
  replace K_0 := K_0.then_ hk (fun _ h => h.elim)
  clear hh hk
  refine d_take (v := Value.pointer (some ⟨g, 0, none⟩)) p50_1_0 ns50_1 (by kernel_rfl) (by kernel_rfl) (fun c a w h => hQ c a _ _ w h) hE wn_none rfl ⟨B_g, B_gm, B_gx, trivial⟩ (fun W hS => (st_load1 tA24 rfl ((blk_cell hS.2.2.1 0).trans rfl))) (listed' := #[true, false, false, false, false, false, false, false, false, false, false, false, false, false, false, false, false, false, false]) rfl ?_
  clear hE a; intro a hE
  refine d_take (v := Value.pointer (some ⟨g, 0, none⟩)) p50_1_1 ns50_1 (by kernel_rfl) (by kernel_rfl) (fun c a w h => hQ c a _ _ w h) hE wn_none rfl ⟨B_g, B_gm, B_gx, trivial⟩ (fun W hS => (st_nil rfl)) (listed' := #[true, true, false, false, false, false, false, false, false, false, false, false, false, false, false, false, false, false, false]) rfl ?_
  clear hE a; intro a hE
  refine d_take (v := Value.pointer (some ⟨g, 1, none⟩)) p50_1_2 ns50_1 (by kernel_rfl) (by kernel_rfl) (fun c a w h => hQ c a _ _ w h) hE wn_none rfl ⟨B_g, B_gm, B_gx, trivial⟩ (fun W hS => (st_fieldAddr Try.underlying29 rfl tS27 rfl rfl)) (listed' := #[true, true, true, false, false, false, false, false, false, false, false, false, false, false, false, false, false, false, false]) rfl ?_
  clear hE a; intro a hE
  refine d_take (v := Value.map (some gm)) p50_1_3 ns50_1 (by kernel_rfl) (by kernel_rfl) (fun c a w h => hQ c a _ _ w h) hE wn_none rfl ⟨B_g, B_gm, B_gx, trivial⟩ (fun W hS => (st_load1 tA27 rfl ((blk_cell hS.1 1).trans rfl))) (listed' := #[true, true, true, true, false, false, false, false, false, false, false, false, false, false, false, false, false, false, false]) rfl ?_
  clear hE a; intro a hE
  refine d_take (v := Value.int .i64 x) p50_1_4 ns50_1 (by kernel_rfl) (by kernel_rfl) (fun c a w h => hQ c a _ _ w h) hE wn_none rfl ⟨B_g, B_gm, B_gx, trivial⟩ (fun W hS => (st_move rfl)) (listed' := #[true, true, true, true, true, false, false, false, false, false, false, false, false, false, false, false, false, false, false]) rfl ?_
  clear hE a; intro a hE
  refine d_take (v := Value.pointer (some ⟨g, 0, none⟩)) p50_1_6 ns50_1 (by kernel_rfl) (by kernel_rfl) (fun c a w h => hQ c a _ _ w h) hE wn_none rfl ⟨B_g, B_gm, B_gx, trivial⟩ (fun W hS => (st_load1 tA24 rfl ((blk_cell hS.2.2.1 0).trans rfl))) (listed' := #[true, true, true, true, true, false, true, false, false, false, false, false, false, false, false, false, false, false, false]) rfl ?_
  clear hE a; intro a hE
  refine d_take (v := Value.pointer (some ⟨g, 0, none⟩)) p50_1_7 ns50_1 (by kernel_rfl) (by kernel_rfl) (fun c a w h => hQ c a _ _ w h) hE wn_none rfl ⟨B_g, B_gm, B_gx, trivial⟩ (fun W hS => (st_nil rfl)) (listed' := #[true, true, true, true, true, false, true, true, false, false, false, false, false, false, false, false, false, false, false]) rfl ?_
  clear hE a; intro a hE
  refine d_take (v := Value.pointer (some ⟨g, 1, none⟩)) p50_1_8 ns50_1 (by kernel_rfl) (by kernel_rfl) (fun c a w h => hQ c a _ _ w h) hE wn_none rfl ⟨B_g, B_gm, B_gx, trivial⟩ (fun W hS => (st_fieldAddr Try.underlying29 rfl tS27 rfl rfl)) (listed' := #[true, true, true, true, true, false, true, true, true, false, false, false, false, false, false, false, false, false, false]) rfl ?_
  clear hE a; intro a hE
  refine d_take (v := Value.map (some gm)) p50_1_9 ns50_1 (by kernel_rfl) (by kernel_rfl) (fun c a w h => hQ c a _ _ w h) hE wn_none rfl ⟨B_g, B_gm, B_gx, trivial⟩ (fun W hS => (st_load1 tA27 rfl ((blk_cell hS.1 1).trans rfl))) (listed' := #[true, true, true, true, true, false, true, true, true, true, false, false, false, false, false, false, false, false, false]) rfl ?_
  clear hE a; intro a hE
  refine d_take (v := Value.int .i64 y) p50_1_10 ns50_1 (by kernel_rfl) (by kernel_rfl) (fun c a w h => hQ c a _ _ w h) hE wn_none rfl ⟨B_g, B_gm, B_gx, trivial⟩ (fun W hS => (st_move rfl)) (listed' := #[true, true, true, true, true, false, true, true, true, true, true, false, false, false, false, false, false, false, false]) rfl ?_
  clear hE a; intro a hE
  refine d_take (v := Value.int .i64 x) p50_1_13 ns50_1 (by kernel_rfl) (by kernel_rfl) (fun c a w h => hQ c a _ _ w h) hE wn_none rfl ⟨B_g, B_gm, B_gx, trivial⟩ (fun W hS => (st_move rfl)) (listed' := #[true, true, true, true, true, false, true, true, true, true, true, false, false, true, false, false, false, false, false]) rfl ?_
  clear hE a; intro a hE
  refine d_take (v := Value.int .i64 y) p50_1_14 ns50_1 (by kernel_rfl) (by kernel_rfl) (fun c a w h => hQ c a _ _ w h) hE wn_none rfl ⟨B_g, B_gm, B_gx, trivial⟩ (fun W hS => (st_move rfl)) (listed' := #[true, true, true, true, true, false, true, true, true, true, true, false, false, true, true, false, false, false, false]) rfl ?_
  clear hE a; intro a hE
  exact dr1_0 _ a (En.sub hE ⟨rfl, rfl, rfl, rfl, rfl, rfl, rfl, rfl, rfl, rfl, rfl, rfl, rfl, rfl, rfl, rfl, trivial⟩) B_g B_gm B_gx K_0
theorem pk_at0 (l : LW) (xs : List Int) : pk l xs 0 = rd xs 0 := rfl
theorem rd_nat (xs : List Int) (i : Nat) : rd xs (i : Int) = xs.getD i 0 := by unfold rd; rw [Int.toNat_natCast]
theorem pk_yes {l : LW} {xs : List Int} {i : Nat} (h1 : 1 ≤ i) (h : cfX l (rd xs (i : Int)) (pk l xs (i - 1)) < 0) : pk l xs (i + 1 - 1) = rd xs (i : Int) := by
  obtain ⟨j, rfl⟩ : ∃ j, i = j + 1 := ⟨i - 1, by omega⟩
  rw [rd_nat] at h ⊢
  show pk l xs (j + 1) = _
  unfold pk
  exact if_pos h
theorem pk_no {l : LW} {xs : List Int} {i : Nat} (h1 : 1 ≤ i) (h : ¬ cfX l (rd xs (i : Int)) (pk l xs (i - 1)) < 0) : pk l xs (i + 1 - 1) = pk l xs (i - 1) := by
  obtain ⟨j, rfl⟩ : ∃ j, i = j + 1 := ⟨i - 1, by omega⟩
  rw [rd_nat] at h
  show pk l xs (j + 1) = pk l xs j
  conv => lhs; unfold pk
  exact if_neg h
def fireO (now : Int) (l : LW) : List Int := (fireS now l).1.map (·.1)
theorem R49_0_l : List.range (regOf Try.f49 0).size = [0] := by kernel_rfl
theorem R49_1_l : List.range (regOf Try.f49 1).size = [0, 1, 2] := by kernel_rfl
theorem R49_2_l : List.range (regOf Try.f49 2).size = [0, 1] := by kernel_rfl
theorem R49_3_l : List.range (regOf Try.f49 3).size = [0, 1, 2, 3] := by kernel_rfl
theorem R49_4_l : List.range (regOf Try.f49 4).size = [0] := by kernel_rfl
theorem R49_5_l : List.range (regOf Try.f49 5).size = [0, 1, 2, 3] := by kernel_rfl
theorem R49_7_l : List.range (regOf Try.f49 7).size = [0, 1, 2, 3, 4, 5, 6, 7] := by kernel_rfl
theorem R49_8_l : List.range (regOf Try.f49 8).size = [0, 1, 2, 3, 4] := by kernel_rfl
theorem R49_6_l : List.range (regOf Try.f49 6).size = [0, 1, 2] := by kernel_rfl
theorem R49_9_l : List.range (regOf Try.f49 9).size = [0, 1] := by kernel_rfl
theorem body49 : Try.f49.body = some (.seq (.region 0 (regOf Try.f49 0) false) (.seq (.seq (.region 1 (regOf Try.f49 1) false) (.cond (Operand.tmp 9) (.region 2 (regOf Try.f49 2) false) (.skip))) (.seq (.region 3 (regOf Try.f49 3) false) (.seq (.seq (.region 4 (regOf Try.f49 4) false) (.block 0 (.loop (.seq (.seq (.region 5 (regOf Try.f49 5) false) (.cond (Operand.tmp 17) (.skip) (.exit 0))) (.seq (.block 1 (.seq (.region 7 (regOf Try.f49 7) false) (.cond (Operand.tmp 27) (.region 8 (regOf Try.f49 8) false) (.skip)))) (.region 6 (regOf Try.f49 6) false)))))) (.seq (.region 9 (regOf Try.f49 9) false) (.ret)))))) := by kernel_rfl
theorem p49_0_0 : pj (regOf Try.f49 0) 0 = some (some 4, .assign (.const (.int .i64 0)), 3, none) := by kernel_rfl
theorem p49_1_0 : pj (regOf Try.f49 1) 0 = some (some 7, .move (.tmp 0), 35, none) := by kernel_rfl
theorem p49_1_1 : pj (regOf Try.f49 1) 1 = some (some 8, .call { callee := .builtin .len, args := #[.tmp 7], argTypes := #[35] }, 3, none) := by kernel_rfl
theorem p49_1_2 : pj (regOf Try.f49 1) 2 = some (some 9, .binOp .lss 3 (.tmp 8) (.const (.int .i64 1)) 3, 4, none) := by kernel_rfl
theorem p49_3_0 : pj (regOf Try.f49 3) 0 = some (some 11, .move (.tmp 0), 35, none) := by kernel_rfl
theorem p49_3_1 : pj (regOf Try.f49 3) 1 = some (some 12, .indexAddr 35 (.tmp 11) (.const (.int .i64 0)), 0, none) := by kernel_rfl
theorem p49_3_2 : pj (regOf Try.f49 3) 2 = some (some 13, .load 3 (.tmp 12), 3, none) := by kernel_rfl
theorem p49_3_3 : pj (regOf Try.f49 3) 3 = some (some 5, .assign (.tmp 13), 3, none) := by kernel_rfl
theorem p49_4_0 : pj (regOf Try.f49 4) 0 = some (some 6, .assign (.const (.int .i64 1)), 3, none) := by kernel_rfl
theorem p49_5_0 : pj (regOf Try.f49 5) 0 = some (some 14, .move (.tmp 6), 3, none) := by kernel_rfl
theorem p49_5_1 : pj (regOf Try.f49 5) 1 = some (some 15, .move (.tmp 0), 35, none) := by kernel_rfl
theorem p49_5_2 : pj (regOf Try.f49 5) 2 = some (some 16, .call { callee := .builtin .len, args := #[.tmp 15], argTypes := #[35] }, 3, none) := by kernel_rfl
theorem p49_5_3 : pj (regOf Try.f49 5) 3 = some (some 17, .binOp .lss 3 (.tmp 14) (.tmp 16) 3, 4, none) := by kernel_rfl
theorem p49_7_0 : pj (regOf Try.f49 7) 0 = some (some 20, .move (.tmp 1), 51, none) := by kernel_rfl
theorem p49_7_1 : pj (regOf Try.f49 7) 1 = some (some 21, .move (.tmp 0), 35, none) := by kernel_rfl
theorem p49_7_2 : pj (regOf Try.f49 7) 2 = some (some 22, .move (.tmp 6), 3, none) := by kernel_rfl
theorem p49_7_3 : pj (regOf Try.f49 7) 3 = some (some 23, .indexAddr 35 (.tmp 21) (.tmp 22), 0, none) := by kernel_rfl
theorem p49_7_4 : pj (regOf Try.f49 7) 4 = some (some 24, .load 3 (.tmp 23), 3, none) := by kernel_rfl
theorem p49_7_5 : pj (regOf Try.f49 7) 5 = some (some 25, .move (.tmp 5), 3, none) := by kernel_rfl
theorem p49_7_6 : pj (regOf Try.f49 7) 6 = some (some 26, .call { callee := .value (.tmp 20), args := #[.tmp 24, .tmp 25], argTypes := #[3, 3] }, 3, none) := by kernel_rfl
theorem cl50 : callable Try.f50 = true := by kernel_rfl
theorem p49_7_7 : pj (regOf Try.f49 7) 7 = some (some 27, .binOp .lss 3 (.tmp 26) (.const (.int .i64 0)) 3, 4, none) := by kernel_rfl
theorem p49_8_0 : pj (regOf Try.f49 8) 0 = some (some 28, .move (.tmp 0), 35, none) := by kernel_rfl
theorem p49_8_1 : pj (regOf Try.f49 8) 1 = some (some 29, .move (.tmp 6), 3, none) := by kernel_rfl
theorem p49_8_2 : pj (regOf Try.f49 8) 2 = some (some 30, .indexAddr 35 (.tmp 28) (.tmp 29), 0, none) := by kernel_rfl
theorem p49_8_3 : pj (regOf Try.f49 8) 3 = some (some 31, .load 3 (.tmp 30), 3, none) := by kernel_rfl
theorem p49_8_4 : pj (regOf Try.f49 8) 4 = some (some 5, .assign (.tmp 31), 3, none) := by kernel_rfl
theorem p49_6_0 : pj (regOf Try.f49 6) 0 = some (some 18, .move (.tmp 6), 3, none) := by kernel_rfl
theorem p49_6_1 : pj (regOf Try.f49 6) 1 = some (some 19, .binOp .add 3 (.tmp 18) (.const (.int .i64 1)) 3, 3, none) := by kernel_rfl
theorem p49_6_2 : pj (regOf Try.f49 6) 2 = some (some 6, .assign (.tmp 19), 3, none) := by kernel_rfl
theorem p49_9_0 : pj (regOf Try.f49 9) 0 = some (some 32, .move (.tmp 5), 3, none) := by kernel_rfl
theorem p49_9_1 : pj (regOf Try.f49 9) 1 = some (some 4, .assign (.tmp 32), 3, none) := by kernel_rfl
set_option maxHeartbeats 4000000 in
theorem min_any (g gm ck : Nat) (es : Array MapEntry) (l : Wp.LW) (now : Int) (gx : Nat) (A : Option Addr) (c : Nat) (xs : List Int) (h0 : 0 < xs.length) (hl : xs.length ≤ 1000) (w : World) (hC : Kd.C (Kd.int .i64) w A xs.length xs) (hgx : g ≠ gx) (hx : w.heap[gx]? = some (.cells #[.pointer (some ⟨g, 0, none⟩)] 24 (0, 0))) (hg : w.heap[g]? = some (.cells #[.int .i64 now, .map (some gm)] 29 (0, 0))) (hm : w.heap[gm]? = some (.map es ck)) (hF : MapI (Value.int .i64) es ck l) (hne : g ≠ gm) : Calls Try.prog 49 #[.slice A xs.length c, .func (.func 50) #[] #[.pointer (some ⟨gx, 0, none⟩)]] w fun e w' => e = .returned (.int .i64 (pk l xs (xs.length - 1))) ∧ Kp w w' (fun _ => False) := by
  have K_0 := Kp.refl w (fun _ => False)
  have B_g := hg
  have B_gm := hm
  have n_g_gm := hne
  have B_gx := hx
  have n_g_gx : g ≠ gx := hgx
  have n_gm_gx : gm ≠ gx := fun e => by rw [e] at hm; rw [hm] at hx; cases hx
  refine enter (args := [Value.slice A xs.length c, Value.func (.func 50) #[] #[Value.pointer (some ⟨gx, 0, none⟩)]]) (n := 33) Try.func49 body49 rfl rfl rfl ?_
  intro a hE
  refine c_reg R49_0_l ?_
  refine q0 p49_0_0 hE (st_assign rfl) ?_
  clear hE a; intro a hE
  refine p_nil ?_
  refine x_norm ?_
  refine wp_seq ?_
  refine c_reg R49_1_l ?_
  refine q0 p49_1_0 hE (st_move rfl) ?_
  clear hE a; intro a hE
  refine q0 p49_1_1 hE (st_len Try.underlying35 rfl) ?_
  clear hE a; intro a hE
  refine q0 p49_1_2 hE (st_lss (b := false) rfl rfl (decide_eq_false (by omega))) ?_
  clear hE a; intro a hE
  refine p_nil ?_
  refine x_norm ?_
  refine c_cond (t := false) hE rfl ?_
  refine wp_skip ?_
  refine x_norm ?_
  refine c_reg R49_3_l ?_
  refine q0 p49_3_0 hE (st_move rfl) ?_
  clear hE a; intro a hE
  refine q0 p49_3_1 hE (st_indexAddrC (i := 0) Try.underlying35 tS3 (C_to hC K_0) rfl rfl (by omega)) ?_
  clear hE a; intro a hE
  refine q0 (v := Value.int .i64 (rd xs (0 : Int))) p49_3_2 hE (st_loadC (i := 0) tA3 (C_to hC K_0) (by omega) rfl) ?_
  clear hE a; intro a hE
  refine q0 p49_3_3 hE (st_assign rfl) ?_
  clear hE a; intro a hE
  refine p_nil ?_
  refine x_norm ?_
  refine wp_seq ?_
  refine c_reg R49_4_l ?_
  refine q0 p49_4_0 hE (st_assign rfl) ?_
  clear hE a; intro a hE
  refine p_nil ?_
  refine x_norm ?_
  refine wp_block ?_
  refine c_loop (α := Nat) (fun i a W => En 33 a [(0, Value.slice A xs.length c), (1, Value.func (.func 50) #[] #[Value.pointer (some ⟨gx, 0, none⟩)]), (4, Value.int .i64 0), (9, Value.bool false), (6, Value.int .i64 (i : Int)), (5, Value.int .i64 (pk l xs (i - 1)))] ∧ 1 ≤ i ∧ i ≤ xs.length ∧ W.heap[g]? = some (.cells #[Value.int .i64 now, Value.map (some gm)] 29 (0, 0)) ∧ W.heap[gm]? = some (.map es ck) ∧ W.heap[gx]? = some (.cells #[Value.pointer (some ⟨g, 0, none⟩)] 24 (0, 0)) ∧ Kp w W (fun _ => False)) (fun i => xs.length - i) (1) ?_ ?_
  ·
    exact ⟨En.sub hE ⟨rfl, rfl, rfl, rfl, rfl, (by rw [pk_at0]; rfl), trivial⟩, Nat.le_refl _, h0, B_g, B_gm, B_gx, K_0⟩
  ·
    clear hE a
    rintro i a w1 ⟨hE, hi1, hi9, B_g, B_gm, B_gx, K_0⟩
    refine wp_seq ?_
    rcases Decidable.em ((i : Int) < (xs.length : Int)) with hK1 | hK1
    ·
      refine c_reg R49_5_l ?_
      refine q0 p49_5_0 hE (st_move rfl) ?_
      clear hE a; intro a hE
      refine q0 p49_5_1 hE (st_move rfl) ?_
      clear hE a; intro a hE
      refine q0 p49_5_2 hE (st_len Try.underlying35 rfl) ?_
      clear hE a; intro a hE
      refine q0 p49_5_3 hE (st_lss (b := true) rfl rfl (decide_eq_true hK1)) ?_
      clear hE a; intro a hE
      refine p_nil ?_
      refine x_norm ?_
      refine c_cond (t := true) hE rfl ?_
      refine wp_skip ?_
      refine x_norm ?_
      refine wp_seq ?_
      refine wp_block ?_
      rcases Decidable.em (cfX l (rd xs (i : Int)) (pk l xs (i - 1)) < 0) with hNEG | hNEG
      ·
        refine c_reg R49_7_l ?_
        refine q0 p49_7_0 hE (st_move rfl) ?_
        clear hE a; intro a hE
        refine q0 p49_7_1 hE (st_move rfl) ?_
        clear hE a; intro a hE
        refine q0 p49_7_2 hE (st_move rfl) ?_
        clear hE a; intro a hE
        refine q0 p49_7_3 hE (st_indexAddrC (i := i) Try.underlying35 tS3 (C_to hC K_0) rfl rfl (by omega)) ?_
        clear hE a; intro a hE
        refine q0 (v := Value.int .i64 (rd xs (i : Int))) p49_7_4 hE (st_loadC (i := i) tA3 (C_to hC K_0) (by omega) rfl) ?_
        clear hE a; intro a hE
        refine q0 p49_7_5 hE (st_move rfl) ?_
        clear hE a; intro a hE
        refine p_cons (s_callv (fst := []) (cap := [Value.pointer (some ⟨gx, 0, none⟩)]) (xs := [Operand.tmp 24, Operand.tmp 25]) (args := [Value.int .i64 (rd xs (i : Int)), Value.int .i64 (pk l xs (i - 1))]) p49_7_6 hE wn_none rfl rfl rfl Try.func50 cl50 (clo_any g gm ck es l now gx (rd xs (i : Int)) (pk l xs (i - 1)) _ B_gx B_g B_gm hF n_g_gm) ?_)
        rintro e w2 ⟨rfl, hk⟩
        replace B_g := kp_blk B_g hk (fun h => h)
        replace B_gm := kp_blk B_gm hk (fun h => h)
        replace B_gx := kp_blk B_gx hk (fun h => h)
        replace K_0 := K_0.then_ hk (fun _ h => h.elim)
        refine ⟨_, rfl, ?_⟩
        clear hE a; intro a hE
        refine q0 p49_7_7 hE (st_lss (b := true) rfl rfl (decide_eq_true hNEG)) ?_
        clear hE a; intro a hE
        refine p_nil ?_
        refine x_norm ?_
        refine c_cond (t := true) hE rfl ?_
        refine c_regL R49_8_l ?_
        refine q0 p49_8_0 hE (st_move rfl) ?_
        clear hE a; intro a hE
        refine q0 p49_8_1 hE (st_move rfl) ?_
        clear hE a; intro a hE
        refine q0 p49_8_2 hE (st_indexAddrC (i := i) Try.underlying35 tS3 (C_to hC K_0) rfl rfl (by omega)) ?_
        clear hE a; intro a hE
        refine q0 (v := Value.int .i64 (rd xs (i : Int))) p49_8_3 hE (st_loadC (i := i) tA3 (C_to hC K_0) (by omega) rfl) ?_
        clear hE a; intro a hE
        refine q0 p49_8_4 hE (st_assign rfl) ?_
        clear hE a; intro a hE
        refine p_nil ?_
        refine x_normB ?_
        refine x_norm ?_
        refine c_regL R49_6_l ?_
        refine q0 p49_6_0 hE (st_move rfl) ?_
        clear hE a; intro a hE
        refine q0 p49_6_1 hE (st_add (z := (i : Int) + 1) rfl rfl (wr_i64 _ (by omega) (by omega))) ?_
        clear hE a; intro a hE
        refine q0 p49_6_2 hE (st_assign rfl) ?_
        clear hE a; intro a hE
        refine p_nil ?_
        refine x_norm ?_
        have hpk9 := pk_yes hi1 hNEG
        exact ⟨i + 1, by omega, En.sub hE ⟨rfl, rfl, rfl, rfl, rfl, (by rw [hpk9]; rfl), trivial⟩, by omega, by omega, B_g, B_gm, B_gx, K_0⟩
      ·
        refine c_reg R49_7_l ?_
        refine q0 p49_7_0 hE (st_move rfl) ?_
        clear hE a; intro a hE
        refine q0 p49_7_1 hE (st_move rfl) ?_
        clear hE a; intro a hE
        refine q0 p49_7_2 hE (st_move rfl) ?_
        clear hE a; intro a hE
        refine q0 p49_7_3 hE (st_indexAddrC (i := i) Try.underlying35 tS3 (C_to hC K_0) rfl rfl (by omega)) ?_
        clear hE a; intro a hE
        refine q0 (v := Value.int .i64 (rd xs (i : Int))) p49_7_4 hE (st_loadC (i := i) tA3 (C_to hC K_0) (by omega) rfl) ?_
        clear hE a; intro a hE
        refine q0 p49_7_5 hE (st_move rfl) ?_
        clear hE a; intro a hE
        refine p_cons (s_callv (fst := []) (cap := [Value.pointer (some ⟨gx, 0, none⟩)]) (xs := [Operand.tmp 24, Operand.tmp 25]) (args := [Value.int .i64 (rd xs (i : Int)), Value.int .i64 (pk l xs (i - 1))]) p49_7_6 hE wn_none rfl rfl rfl Try.func50 cl50 (clo_any g gm ck es l now gx (rd xs (i : Int)) (pk l xs (i - 1)) _ B_gx B_g B_gm hF n_g_gm) ?_)
        rintro e w3 ⟨rfl, hk⟩
        replace B_g := kp_blk B_g hk (fun h => h)
        replace B_gm := kp_blk B_gm hk (fun h => h)
        replace B_gx := kp_blk B_gx hk (fun h => h)
        replace K_0 := K_0.then_ hk (fun _ h => h.elim)
        refine ⟨_, rfl, ?_⟩
        clear hE a; intro a hE
        refine q0 p49_7_7 hE (st_lss (b := false) rfl rfl (decide_eq_false hNEG)) ?_
        clear hE a; intro a hE
        refine p_nil ?_
        refine x_norm ?_
        refine c_cond (t := false) hE rfl ?_
        refine wp_skip ?_
        refine x_normB ?_
        refine x_norm ?_
        refine c_regL R49_6_l ?_
        refine q0 p49_6_0 hE (st_move rfl) ?_
        clear hE a; intro a hE
        refine q0 p49_6_1 hE (st_add (z := (i : Int) + 1) rfl rfl (wr_i64 _ (by omega) (by omega))) ?_
        clear hE a; intro a hE
        refine q0 p49_6_2 hE (st_assign rfl) ?_
        clear hE a; intro a hE
        refine p_nil ?_
        refine x_norm ?_
        have hpk9 := pk_no hi1 hNEG
        exact ⟨i + 1, by omega, En.sub hE ⟨rfl, rfl, rfl, rfl, rfl, (by rw [hpk9]; rfl), trivial⟩, by omega, by omega, B_g, B_gm, B_gx, K_0⟩
    ·
      refine c_reg R49_5_l ?_
      refine q0 p49_5_0 hE (st_move rfl) ?_
      clear hE a; intro a hE
      refine q0 p49_5_1 hE (st_move rfl) ?_
      clear hE a; intro a hE
      refine q0 p49_5_2 hE (st_len Try.underlying35 rfl) ?_
      clear hE a; intro a hE
      refine q0 p49_5_3 hE (st_lss (b := false) rfl rfl (decide_eq_false hK1)) ?_
      clear hE a; intro a hE
      refine p_nil ?_
      refine x_norm ?_
      refine c_cond (t := false) hE rfl ?_
      refine wp_exit ?_
      refine x_exit ?_
      refine x_exit ?_
      refine x_in ?_
      refine x_norm ?_
      refine c_reg R49_9_l ?_
      refine q0 p49_9_0 hE (st_move rfl) ?_
      clear hE a; intro a hE
      refine q0 p49_9_1 hE (st_assign rfl) ?_
      clear hE a; intro a hE
      refine p_nil ?_
      refine x_norm ?_
      refine wp_ret ?_
      refine ret_one (v := Value.int .i64 (pk l xs (i - 1))) rfl hE (.tmp rfl .nil) ?_
      obtain rfl : i = xs.length := by omega
      exact ⟨rfl, K_0⟩
def fstP (l : LW) : Int × Bool := match firstI l with | none => (0, false) | some p => (p.1, true)
theorem R36_0_l : List.range (regOf Try.f36 0).size = [0, 1, 2] := by kernel_rfl
theorem R36_1_l : List.range (regOf Try.f36 1).size = [0, 1, 2, 3, 4, 5, 6] := by kernel_rfl
theorem R36_2_l : List.range (regOf Try.f36 2).size = [0, 1, 2] := by kernel_rfl
theorem R36_3_l : List.range (regOf Try.f36 3).size = [0, 1] := by kernel_rfl
theorem R36_4_l : List.range (regOf Try.f36 4).size = [0, 1, 2, 3, 4] := by kernel_rfl
theorem body36 : Try.f36.body = some (.seq (.region 0 (regOf Try.f36 0) false) (.seq (.region 1 (regOf Try.f36 1) false) (.seq (.seq (.region 2 (regOf Try.f36 2) false) (.cond (Operand.tmp 13) (.seq (.region 3 (regOf Try.f36 3) false) (.ret)) (.skip))) (.seq (.region 4 (regOf Try.f36 4) false) (.ret))))) := by kernel_rfl
theorem p36_0_0 : pj (regOf Try.f36 0) 0 = some (some 1, .box 24 (.tmp 0), 0, none) := by kernel_rfl
theorem p36_0_1 : pj (regOf Try.f36 0) 1 = some (some 2, .assign (.const (.int .i64 0)), 3, none) := by kernel_rfl
theorem p36_0_2 : pj (regOf Try.f36 0) 2 = some (some 3, .assign (.const (.bool false)), 4, none) := by kernel_rfl
theorem p36_1_0 : pj (regOf Try.f36 1) 0 = some (some 5, .load 24 (.tmp 1), 24, none) := by kernel_rfl
theorem p36_1_1 : pj (regOf Try.f36 1) 1 = some (some 6, .nilCheck (.tmp 5), 0, none) := by kernel_rfl
theorem p36_1_2 : pj (regOf Try.f36 1) 2 = some (some 7, .fieldAddr 29 (.tmp 6) 1, 0, none) := by kernel_rfl
theorem p36_1_3 : pj (regOf Try.f36 1) 3 = some (some 8, .load 27 (.tmp 7), 27, none) := by kernel_rfl
theorem p36_1_4 : pj (regOf Try.f36 1) 4 = some (some 9, .call { callee := .value (.func 48), args := #[.tmp 8], argTypes := #[27] }, 88, none) := by kernel_rfl
theorem cl48 : callable Try.f48 = true := by kernel_rfl
theorem p36_1_5 : pj (regOf Try.f36 1) 5 = some (some 10, .call { callee := .value (.func 47), args := #[.tmp 9], argTypes := #[88] }, 35, none) := by kernel_rfl
theorem cl47 : callable Try.f47 = true := by kernel_rfl
theorem p36_1_6 : pj (regOf Try.f36 1) 6 = some (some 4, .assign (.tmp 10), 35, none) := by kernel_rfl
theorem p36_2_0 : pj (regOf Try.f36 2) 0 = some (some 11, .move (.tmp 4), 35, none) := by kernel_rfl
theorem p36_2_1 : pj (regOf Try.f36 2) 1 = some (some 12, .call { callee := .builtin .len, args := #[.tmp 11], argTypes := #[35] }, 3, none) := by kernel_rfl
theorem p36_2_2 : pj (regOf Try.f36 2) 2 = some (some 13, .binOp .eql 3 (.tmp 12) (.const (.int .i64 0)) 3, 4, none) := by kernel_rfl
theorem p36_3_0 : pj (regOf Try.f36 3) 0 = some (some 2, .assign (.const (.int .i64 0)), 3, none) := by kernel_rfl
theorem p36_3_1 : pj (regOf Try.f36 3) 1 = some (some 3, .assign (.const (.bool false)), 4, none) := by kernel_rfl
theorem p36_4_0 : pj (regOf Try.f36 4) 0 = some (some 14, .move (.tmp 4), 35, none) := by kernel_rfl
theorem p36_4_1 : pj (regOf Try.f36 4) 1 = some (some 15, .makeFunc (.func 50) #[] #[.tmp 1], 51, none) := by kernel_rfl
theorem p36_4_2 : pj (regOf Try.f36 4) 2 = some (some 16, .call { callee := .value (.func 49), args := #[.tmp 14, .tmp 15], argTypes := #[35, 51] }, 3, none) := by kernel_rfl
theorem cl49 : callable Try.f49 = true := by kernel_rfl
theorem p36_4_3 : pj (regOf Try.f36 4) 3 = some (some 2, .assign (.tmp 16), 3, none) := by kernel_rfl
theorem p36_4_4 : pj (regOf Try.f36 4) 4 = some (some 3, .assign (.const (.bool true)), 4, none) := by kernel_rfl
set_option maxHeartbeats 4000000 in
theorem first_any (g gm ck : Nat) (es : Array MapEntry) (l : Wp.LW) (now : Int) (w : World) (hll : l.length ≤ 1000) (hg : w.heap[g]? = some (.cells #[.int .i64 now, .map (some gm)] 29 (0, 0))) (hm : w.heap[gm]? = some (.map es ck)) (hF : MapI (Value.int .i64) es ck l) (hne : g ≠ gm) : Calls Try.prog 36 #[.pointer (some ⟨g, 0, none⟩)] w fun e w' => e = .returned (.tuple #[.int .i64 (fstP l).1, .bool (fstP l).2]) ∧ Kp w w' (fun _ => False) := by
  have K_0 := Kp.refl w (fun _ => False)
  have B_g := hg
  have B_gm := hm
  have n_g_gm := hne
  refine enter (args := [Value.pointer (some ⟨g, 0, none⟩)]) (n := 17) Try.func36 body36 rfl rfl rfl ?_
  intro a hE
  refine c_reg R36_0_l ?_
  refine p_cons (s_box p36_0_0 hE wn_none rfl rfl ?_)
  clear hE a; intro g1 w2 z3 B_g1 hk a hE
  replace B_g1 : w2.heap[g1]? = some (.cells #[Value.pointer (some ⟨g, 0, none⟩)] 24 (0, 0)) := B_g1
  have n_g_g1 : g ≠ g1 := ne_new B_g z3
  have n_gm_g1 : gm ≠ g1 := ne_new B_gm z3
  have z_0_g1 := Nat.le_trans K_0.kept.1 z3
  replace B_g := kp_blk B_g hk (fun h => h)
  replace B_gm := kp_blk B_gm hk (fun h => h)
  replace K_0 := K_0.then_ hk (fun _ h => h.elim)
  clear hk
  refine q0 p36_0_1 hE (st_assign rfl) ?_
  clear hE a; intro a hE
  refine q0 p36_0_2 hE (st_assign rfl) ?_
  clear hE a; intro a hE
  refine p_nil ?_
  refine x_norm ?_
  refine c_reg R36_1_l ?_
  refine q0 p36_1_0 hE (st_load1 tA24 rfl ((blk_cell B_g1 0).trans rfl)) ?_
  clear hE a; intro a hE
  refine q0 p36_1_1 hE (st_nil rfl) ?_
  clear hE a; intro a hE
  refine q0 p36_1_2 hE (st_fieldAddr Try.underlying29 rfl tS27 rfl rfl) ?_
  clear hE a; intro a hE
  refine q0 p36_1_3 hE (st_load1 tA27 rfl ((blk_cell B_g 1).trans rfl)) ?_
  clear hE a; intro a hE
  refine p_cons (s_call (xs := [Operand.tmp 8]) (args := [Value.map (some gm)]) p36_1_4 hE wn_none rfl rfl Try.func48 cl48 (Mc.keys_any (some gm) _) ?_)
  rintro e w6 ⟨gk4, z5, rfl, B_gk4, hk⟩
  have n_g_gk4 : g ≠ gk4 := ne_new B_g z5
  have n_gm_gk4 : gm ≠ gk4 := ne_new B_gm z5
  have n_g1_gk4 : g1 ≠ gk4 := ne_new B_g1 z5
  have z_0_gk4 := Nat.le_trans K_0.kept.1 z5
  replace B_g := kp_blk B_g hk (fun h => h)
  replace B_gm := kp_blk B_gm hk (fun h => h)
  replace B_g1 := kp_blk B_g1 hk (fun h => h)
  replace K_0 := K_0.then_ hk (fun _ h => h.elim)
  refine ⟨_, rfl, ?_⟩
  clear hE a; intro a hE
  have hnb_g := blk_lt B_g
  have hnb_gm := blk_lt B_gm
  have hnb_g1 := blk_lt B_g1
  have hnb_gk4 := blk_lt B_gk4
  have hnz_0 := K_0.kept.1
  refine p_cons (s_call (xs := [Operand.tmp 9]) (args := [Value.func (.func 56) #[] #[Value.pointer (some ⟨gk4, 0, none⟩)]]) p36_1_5 hE wn_none rfl rfl Try.func47 cl47 (Mc.collect_any hF (by omega) _ B_gm B_gk4) ?_)
  rintro e w11 ⟨A8, c9, ss10, rfl, hp_ss10, hl_ss10, O_q7, hk⟩
  replace B_g := kp_blk B_g hk (fun h => h)
  replace B_gm := kp_blk B_gm hk (fun h => h)
  replace B_g1 := kp_blk B_g1 hk (fun h => h)
  replace B_gk4 := kp_blk B_gk4 hk (fun h => h)
  replace K_0 := K_0.then_ hk (fun _ h => h.elim)
  have Nb_q7_g : ¬ OB A8 g := fun h => by have := (own_ob O_q7 h).1; have := hnb_g; omega
  have Nb_q7_gm : ¬ OB A8 gm := fun h => by have := (own_ob O_q7 h).1; have := hnb_gm; omega
  have Nb_q7_g1 : ¬ OB A8 g1 := fun h => by have := (own_ob O_q7 h).1; have := hnb_g1; omega
  have Nb_q7_gk4 : ¬ OB A8 gk4 := fun h => by have := (own_ob O_q7 h).1; have := hnb_gk4; omega
  have Z_0_q7 : ∀ k, OB A8 k → (fun _ => False) k ∨ w.heap.size ≤ k := fun k h => .inr (by have := (own_ob O_q7 h).1; have := hnz_0; omega)
  replace O_q7 := own_lower O_q7 hnz_0
  refine ⟨_, rfl, ?_⟩
  clear hE a; intro a hE
  refine q0 p36_1_6 hE (st_assign rfl) ?_
  clear hE a; intro a hE
  refine p_nil ?_
  refine x_norm ?_
  refine wp_seq ?_
  rcases Decidable.em (l = []) with hE0 | hE0
  ·
    refine c_reg R36_2_l ?_
    refine q0 p36_2_0 hE (st_move rfl) ?_
    clear hE a; intro a hE
    refine q0 p36_2_1 hE (st_len Try.underlying35 rfl) ?_
    clear hE a; intro a hE
    refine q0 p36_2_2 hE (st_eql (b := true) rfl rfl (decide_eq_true (by rw [hE0]; rfl))) ?_
    clear hE a; intro a hE
    refine p_nil ?_
    refine x_norm ?_
    refine c_cond (t := true) hE rfl ?_
    refine c_reg R36_3_l ?_
    refine q0 p36_3_0 hE (st_assign rfl) ?_
    clear hE a; intro a hE
    refine q0 p36_3_1 hE (st_assign rfl) ?_
    clear hE a; intro a hE
    refine p_nil ?_
    refine x_norm ?_
    refine wp_ret ?_
    refine x_ret ?_
    refine ret_list (rs := [.tmp 2, .tmp 3]) (vs := [Value.int .i64 0, Value.bool false]) rfl hE (.tmp rfl (.tmp rfl .nil)) rfl ?_
    exact ⟨by unfold fstP; rw [firstI_none.2 hE0], K_0⟩
  ·
    have hlp : 0 < l.length := List.length_pos_iff.2 hE0
    refine c_reg R36_2_l ?_
    refine q0 p36_2_0 hE (st_move rfl) ?_
    clear hE a; intro a hE
    refine q0 p36_2_1 hE (st_len Try.underlying35 rfl) ?_
    clear hE a; intro a hE
    refine q0 p36_2_2 hE (st_eql (b := false) rfl rfl (decide_eq_false (by omega))) ?_
    clear hE a; intro a hE
    refine p_nil ?_
    refine x_norm ?_
    refine c_cond (t := false) hE rfl ?_
    refine wp_skip ?_
    refine x_norm ?_
    refine c_reg R36_4_l ?_
    refine q0 p36_4_0 hE (st_move rfl) ?_
    clear hE a; intro a hE
    refine q0 p36_4_1 hE (st_func (first := []) (captured := [Operand.tmp 1]) rfl rfl) ?_
    clear hE a; intro a hE
    have hne9 : 0 < ss10.length := by rw [hl_ss10]; omega
    have hC9 : Kd.C (Kd.int .i64) w11 A8 ss10.length ss10 := by rw [hl_ss10]; exact (own_told O_q7)
    have hct := min_any g gm ck es l now g1 A8 c9 ss10 hne9 (by rw [hl_ss10]; omega) w11 hC9 n_g_g1 B_g1 B_g B_gm hF n_g_gm
    rw [hl_ss10] at hct
    refine p_cons (s_call (xs := [Operand.tmp 14, Operand.tmp 15]) (args := [Value.slice A8 l.length c9, Value.func (.func 50) #[] #[Value.pointer (some ⟨g1, 0, none⟩)]]) p36_4_2 hE wn_none rfl rfl Try.func49 cl49 (hct) ?_)
    rintro e w12 ⟨rfl, hk⟩
    replace B_g := kp_blk B_g hk (fun h => h)
    replace B_gm := kp_blk B_gm hk (fun h => h)
    replace B_g1 := kp_blk B_g1 hk (fun h => h)
    replace B_gk4 := kp_blk B_gk4 hk (fun h => h)
    replace O_q7 := own_keep O_q7 hk (fun _ _ h => h)
    replace K_0 := K_0.then_ hk (fun _ h => h.elim)
    refine ⟨_, rfl, ?_⟩
    clear hE a; intro a hE
    refine q0 p36_4_3 hE (st_assign rfl) ?_
    clear hE a; intro a hE
    refine q0 p36_4_4 hE (st_assign rfl) ?_
    clear hE a; intro a hE
    refine p_nil ?_
    refine x_norm ?_
    refine wp_ret ?_
    refine ret_list (rs := [.tmp 2, .tmp 3]) (vs := [Value.int .i64 (pk l ss10 (l.length - 1)), Value.bool true]) rfl hE (.tmp rfl (.tmp rfl .nil)) rfl ?_
    obtain ⟨p, hp1, hp2⟩ := first_unique hF.nodup hp_ss10 hne9
    rw [hl_ss10] at hp2
    exact ⟨by unfold fstP; rw [hp1, hp2], K_0⟩
theorem first_no (g gm ck : Nat) (es : Array MapEntry) (l : Wp.LW) (now : Int) (w : World) (hll : l.length ≤ 1000) (hf : firstI l = none) (hg : w.heap[g]? = some (.cells #[.int .i64 now, .map (some gm)] 29 (0, 0))) (hm : w.heap[gm]? = some (.map es ck)) (hF : MapI (Value.int .i64) es ck l) (hne : g ≠ gm) : Calls Try.prog 36 #[.pointer (some ⟨g, 0, none⟩)] w fun e w' => e = .returned (.tuple #[.int .i64 0, .bool false]) ∧ Kp w w' (fun _ => False) := by
  have := first_any g gm ck es l now w hll hg hm hF hne
  unfold fstP at this
  rw [hf] at this
  exact this
theorem first_yes (g gm ck : Nat) (es : Array MapEntry) (l : Wp.LW) (now : Int) {p : Int × Int} (w : World) (hll : l.length ≤ 1000) (hf : firstI l = some p) (hg : w.heap[g]? = some (.cells #[.int .i64 now, .map (some gm)] 29 (0, 0))) (hm : w.heap[gm]? = some (.map es ck)) (hF : MapI (Value.int .i64) es ck l) (hne : g ≠ gm) : Calls Try.prog 36 #[.pointer (some ⟨g, 0, none⟩)] w fun e w' => e = .returned (.tuple #[.int .i64 p.1, .bool true]) ∧ Kp w w' (fun _ => False) := by
  have := first_any g gm ck es l now w hll hg hm hF hne
  unfold fstP at this
  rw [hf] at this
  exact this
theorem R34_0_l : List.range (regOf Try.f34 0).size = [0] := by kernel_rfl
theorem R34_1_l : List.range (regOf Try.f34 1).size = [0] := by kernel_rfl
theorem R34_2_l : List.range (regOf Try.f34 2).size = [0, 1, 2, 3, 4, 5, 6] := by kernel_rfl
theorem R34_3_l : List.range (regOf Try.f34 3).size = [0, 1, 2, 3, 4, 5, 6, 7, 8, 9, 10, 11, 12, 13, 14, 15] := by kernel_rfl
theorem R34_4_l : List.range (regOf Try.f34 4).size = [0, 1] := by kernel_rfl
theorem R34_5_l : List.range (regOf Try.f34 5).size = [0, 1, 2, 3, 4, 5] := by kernel_rfl
theorem R34_6_l : List.range (regOf Try.f34 6).size = [0, 1, 2, 3, 4] := by kernel_rfl
theorem body34 : Try.f34.body = some (.seq (.region 0 (regOf Try.f34 0) false) (.seq (.region 1 (regOf Try.f34 1) false) (.block 0 (.loop (.block 1 (.seq (.region 2 (regOf Try.f34 2) false) (.seq (.seq (.region 3 (regOf Try.f34 3) true) (.cond (Operand.tmp 26) (.seq (.region 4 (regOf Try.f34 4) false) (.ret)) (.skip))) (.seq (.region 5 (regOf Try.f34 5) false) (.region 6 (regOf Try.f34 6) false))))))))) := by kernel_rfl
theorem p34_0_0 : pj (regOf Try.f34 0) 0 = some (some 2, .assign (.const (.slice none 0 0)), 35, none) := by kernel_rfl
theorem p34_1_0 : pj (regOf Try.f34 1) 0 = some (some 3, .assign (.const (.slice none 0 0)), 35, none) := by kernel_rfl
theorem p34_2_0 : pj (regOf Try.f34 2) 0 = some (some 7, .move (.tmp 0), 24, none) := by kernel_rfl
theorem p34_2_1 : pj (regOf Try.f34 2) 1 = some (some 8, .call { callee := .value (.func 36), args := #[.tmp 7], argTypes := #[24] }, 74, none) := by kernel_rfl
theorem cl36 : callable Try.f36 = true := by kernel_rfl
theorem p34_2_2 : pj (regOf Try.f34 2) 2 = some (some 6, .move (.tmp 8), 74, none) := by kernel_rfl
theorem p34_2_3 : pj (regOf Try.f34 2) 3 = some (some 9, .extract (.tmp 6) 0, 3, none) := by kernel_rfl
theorem p34_2_4 : pj (regOf Try.f34 2) 4 = some (some 10, .extract (.tmp 6) 1, 4, none) := by kernel_rfl
theorem p34_2_5 : pj (regOf Try.f34 2) 5 = some (some 4, .assign (.tmp 9), 3, none) := by kernel_rfl
theorem p34_2_6 : pj (regOf Try.f34 2) 6 = some (some 5, .assign (.tmp 10), 4, none) := by kernel_rfl
theorem ns34_3 : Region.noSelect (regOf Try.f34 3) = true := by kernel_rfl
theorem p34_3_0 : pj (regOf Try.f34 3) 0 = some (some 11, .move (.tmp 5), 4, none) := by kernel_rfl
theorem p34_3_1 : pj (regOf Try.f34 3) 1 = some (some 12, .unOp .not 4 (.tmp 11), 4, none) := by kernel_rfl
theorem p34_3_2 : pj (regOf Try.f34 3) 2 = some (some 13, .move (.tmp 12), 4, none) := by kernel_rfl
theorem g34_3_2 : dstOf (regOf Try.f34 3) 2 = some 13 := by kernel_rfl
theorem p34_3_3 : pj (regOf Try.f34 3) 3 = some (some 14, .move (.tmp 0), 24, some (2, false)) := by kernel_rfl
theorem p34_3_4 : pj (regOf Try.f34 3) 4 = some (some 15, .nilCheck (.tmp 14), 0, some (2, false)) := by kernel_rfl
theorem p34_3_5 : pj (regOf Try.f34 3) 5 = some (some 16, .fieldAddr 29 (.tmp 15) 1, 0, some (2, false)) := by kernel_rfl
theorem p34_3_6 : pj (regOf Try.f34 3) 6 = some (some 17, .load 27 (.tmp 16), 27, some (2, false)) := by kernel_rfl
theorem p34_3_7 : pj (regOf Try.f34 3) 7 = some (some 18, .move (.tmp 4), 3, some (2, false)) := by kernel_rfl
theorem p34_3_8 : pj (regOf Try.f34 3) 8 = some (some 19, .lookup 27 (.tmp 17) (.tmp 18) false, 3, some (2, false)) := by kernel_rfl
theorem p34_3_9 : pj (regOf Try.f34 3) 9 = some (some 20, .move (.tmp 0), 24, some (2, false)) := by kernel_rfl
theorem p34_3_10 : pj (regOf Try.f34 3) 10 = some (some 21, .nilCheck (.tmp 20), 0, some (2, false)) := by kernel_rfl
theorem p34_3_11 : pj (regOf Try.f34 3) 11 = some (some 22, .fieldAddr 29 (.tmp 21) 0, 0, some (2, false)) := by kernel_rfl
theorem p34_3_12 : pj (regOf Try.f34 3) 12 = some (some 23, .fieldAddr 26 (.tmp 22) 0, 0, some (2, false)) := by kernel_rfl
theorem p34_3_13 : pj (regOf Try.f34 3) 13 = some (some 24, .load 3 (.tmp 23), 3, some (2, false)) := by kernel_rfl
theorem p34_3_14 : pj (regOf Try.f34 3) 14 = some (some 25, .binOp .gtr 3 (.tmp 19) (.tmp 24) 3, 4, some (2, false)) := by kernel_rfl
theorem p34_3_15 : pj (regOf Try.f34 3) 15 = some (some 26, .pick (.tmp 13) (.const (.bool true)) (.tmp 25), 4, none) := by kernel_rfl
theorem p34_4_0 : pj (regOf Try.f34 4) 0 = some (some 27, .move (.tmp 3), 35, none) := by kernel_rfl
theorem p34_4_1 : pj (regOf Try.f34 4) 1 = some (some 2, .assign (.tmp 27), 35, none) := by kernel_rfl
theorem tS26 : (Try.prog.info? 26).map (·.size) = some 1 := by kernel_rfl
theorem p34_5_0 : pj (regOf Try.f34 5) 0 = some (some 28, .move (.tmp 0), 24, none) := by kernel_rfl
theorem p34_5_1 : pj (regOf Try.f34 5) 1 = some (some 29, .nilCheck (.tmp 28), 0, none) := by kernel_rfl
theorem p34_5_2 : pj (regOf Try.f34 5) 2 = some (some 30, .fieldAddr 29 (.tmp 29) 1, 0, none) := by kernel_rfl
theorem p34_5_3 : pj (regOf Try.f34 5) 3 = some (some 31, .load 27 (.tmp 30), 27, none) := by kernel_rfl
theorem p34_5_4 : pj (regOf Try.f34 5) 4 = some (some 32, .move (.tmp 4), 3, none) := by kernel_rfl
theorem p34_5_5 : pj (regOf Try.f34 5) 5 = some (none, .call { callee := .builtin .delete, args := #[.tmp 31, .tmp 32], argTypes := #[27, 3] }, 0, none) := by kernel_rfl
theorem p34_6_0 : pj (regOf Try.f34 6) 0 = some (some 33, .move (.tmp 3), 35, none) := by kernel_rfl
theorem p34_6_1 : pj (regOf Try.f34 6) 1 = some (some 34, .move (.tmp 4), 3, none) := by kernel_rfl
theorem p34_6_2 : pj (regOf Try.f34 6) 2 = some (some 35, .buildSlice 35 1 #[(0, .tmp 34)], 35, none) := by kernel_rfl
theorem p34_6_3 : pj (regOf Try.f34 6) 3 = some (some 36, .call { callee := .builtin .append, args := #[.tmp 33, .tmp 35], argTypes := #[35, 35] }, 35, none) := by kernel_rfl
theorem eD3 : elemD Try.prog 3 = some (1, 1, 8) := by kernel_rfl
theorem p34_6_4 : pj (regOf Try.f34 6) 4 = some (some 3, .assign (.tmp 36), 35, none) := by kernel_rfl
set_option maxHeartbeats 4000000 in
theorem fire_any (g gm ck : Nat) (es : Array MapEntry) (l : Wp.LW) (now : Int) (w : World) (hll : l.length ≤ 1000) (hg : w.heap[g]? = some (.cells #[.int .i64 now, .map (some gm)] 29 (0, 0))) (hm : w.heap[gm]? = some (.map es ck)) (hF : MapI (Value.int .i64) es ck l) (hne : g ≠ gm) : Calls Try.prog 34 #[.pointer (some ⟨g, 0, none⟩)] w fun e w' => ∃ A c es' ck', e = .returned (.slice A (fireO now l).length c) ∧ w'.ownsRow w.heap.size 3 1 (.slice A (fireO now l).length c) (fireO now l).length (encs (Value.int .i64) (fireO now l)) ∧ MapI (Value.int .i64) es' ck' (fireS now l).2 ∧ w'.heap[gm]? = some (.map es' ck') ∧ Kp w w' (fun k => k = gm) := by
  have K_0 := Kp.refl w (fun k => k = gm)
  have B_g := hg
  have B_gm := hm
  have n_g_gm := hne
  refine enter (args := [Value.pointer (some ⟨g, 0, none⟩)]) (n := 37) Try.func34 body34 rfl rfl rfl ?_
  intro a hE
  refine c_reg R34_0_l ?_
  refine q0 p34_0_0 hE (st_assign rfl) ?_
  clear hE a; intro a hE
  refine p_nil ?_
  refine x_norm ?_
  refine c_reg R34_1_l ?_
  refine q0 p34_1_0 hE (st_assign rfl) ?_
  clear hE a; intro a hE
  refine p_nil ?_
  refine x_norm ?_
  refine wp_block ?_
  have O_out := own_none w w.heap.size 3 1
  have Nb_out_g : ¬ OB none g := ob_nil
  have Nb_out_gm : ¬ OB none gm := ob_nil
  have Z_0_out : ∀ k, OB none k → (fun k => k = gm) k ∨ w.heap.size ≤ k := fun k h => absurd h ob_nil
  refine c_loop (α := LW) (fun lc a W => ∃ (A_out : Option Addr) (c_out : Nat) (n_out : Nat), ∃ (es9 : Array MapEntry), ∃ (ck9 : Nat), ∃ (acc : List (Int × Int)), En 37 a [(0, Value.pointer (some ⟨g, 0, none⟩)), (3, Value.slice A_out n_out c_out)] ∧ MapI (Value.int .i64) es9 ck9 lc ∧ fireS now l = (acc ++ (fireS now lc).1, (fireS now lc).2) ∧ acc.length + lc.length ≤ l.length ∧ W.heap[g]? = some (.cells #[Value.int .i64 now, Value.map (some gm)] 29 (0, 0)) ∧ W.heap[gm]? = some (.map es9 ck9) ∧ n_out = (acc.map (·.1)).length ∧ W.ownsRow w.heap.size 3 1 (.slice A_out n_out c_out) n_out (encs (Value.int .i64) (acc.map (·.1))) ∧ ¬ OB A_out g ∧ ¬ OB A_out gm ∧ (∀ k, OB A_out k → (fun k => k = gm) k ∨ w.heap.size ≤ k) ∧ Kp w W (fun k => k = gm)) (fun lc => lc.length) (l) ?_ ?_
  ·
    exact ⟨none, 0, 0, es, ck, [], En.sub hE ⟨rfl, rfl, trivial⟩, hF, rfl, (by show 0 + l.length ≤ _; omega), B_g, B_gm, rfl, O_out, Nb_out_g, Nb_out_gm, Z_0_out, K_0⟩
  ·
    clear hE a
    rintro lc a w1 ⟨A_out, c_out, n_out, es9, ck9, acc, hE, MF9, hfi, hal, B_g, B_gm, hn_out, O_out, Nb_out_g, Nb_out_gm, Z_0_out, K_0⟩
    refine wp_block ?_
    rcases Decidable.em (firstI lc = none) with hNONE | hNONE
    ·
      refine c_reg R34_2_l ?_
      refine q0 p34_2_0 hE (st_move rfl) ?_
      clear hE a; intro a hE
      refine p_cons (s_call (xs := [Operand.tmp 7]) (args := [Value.pointer (some ⟨g, 0, none⟩)]) p34_2_1 hE wn_none rfl rfl Try.func36 cl36 (first_no g gm ck9 es9 lc now _ (by omega) hNONE B_g B_gm MF9 n_g_gm) ?_)
      rintro e w2 ⟨rfl, hk⟩
      replace B_g := kp_blk B_g hk (fun h => h)
      replace B_gm := kp_blk B_gm hk (fun h => h)
      replace O_out := own_keep O_out hk (fun _ _ h => h)
      replace K_0 := K_0.then_ hk (fun _ h => h.elim)
      refine ⟨_, rfl, ?_⟩
      clear hE a; intro a hE
      refine q0 p34_2_2 hE (st_move rfl) ?_
      clear hE a; intro a hE
      refine q0 p34_2_3 hE (st_extract rfl rfl) ?_
      clear hE a; intro a hE
      refine q0 p34_2_4 hE (st_extract rfl rfl) ?_
      clear hE a; intro a hE
      refine q0 p34_2_5 hE (st_assign rfl) ?_
      clear hE a; intro a hE
      refine q0 p34_2_6 hE (st_assign rfl) ?_
      clear hE a; intro a hE
      refine p_nil ?_
      refine x_norm ?_
      refine wp_seq ?_
      refine c_drawS (S := fun W => W.heap[g]? = some (.cells #[Value.int .i64 now, Value.map (some gm)] 29 (0, 0)) ∧ W.heap[gm]? = some (.map es9 ck9) ∧ True) rfl rfl (listed := #[false, false, false, false, false, false, false, false, false, false, false, false, false, false, false, false]) rfl ?_
      intro w3 hh hk
      replace B_g := kp_blk B_g hk (fun h => h)
      replace B_gm := kp_blk B_gm hk (fun h => h)
      replace O_out := own_keep O_out hk (fun _ _ h => h)
      replace K_0 := K_0.then_ hk (fun _ h => h.elim)
      clear hh hk
      refine d_take (v := Value.bool false) p34_3_0 ns34_3 (by kernel_rfl) (by kernel_rfl) (fun _ _ _ h => h) hE wn_none rfl ⟨B_g, B_gm, trivial⟩ (fun W hS => (st_move rfl)) rfl ?_
      clear hE a; intro a hE
      refine d_take (v := Value.bool true) p34_3_1 ns34_3 (by kernel_rfl) (by kernel_rfl) (fun _ _ _ h => h) hE wn_none rfl ⟨B_g, B_gm, trivial⟩ (fun W hS => (st_not rfl rfl)) rfl ?_
      clear hE a; intro a hE
      refine d_take (v := Value.bool true) p34_3_2 ns34_3 (by kernel_rfl) (by kernel_rfl) (fun _ _ _ h => h) hE wn_none rfl ⟨B_g, B_gm, trivial⟩ (fun W hS => (st_move rfl)) rfl ?_
      clear hE a; intro a hE
      refine d_skip p34_3_3 ns34_3 (by kernel_rfl) (by kernel_rfl) (fun _ _ _ h => h) hE (wn_some g34_3_2 rfl rfl) rfl ⟨B_g, B_gm, trivial⟩ rfl ?_
      clear hE a; intro a hE
      refine d_skip p34_3_4 ns34_3 (by kernel_rfl) (by kernel_rfl) (fun _ _ _ h => h) hE (wn_some g34_3_2 rfl rfl) rfl ⟨B_g, B_gm, trivial⟩ rfl ?_
      clear hE a; intro a hE
      refine d_skip p34_3_5 ns34_3 (by kernel_rfl) (by kernel_rfl) (fun _ _ _ h => h) hE (wn_some g34_3_2 rfl rfl) rfl ⟨B_g, B_gm, trivial⟩ rfl ?_
      clear hE a; intro a hE
      refine d_skip p34_3_6 ns34_3 (by kernel_rfl) (by kernel_rfl) (fun _ _ _ h => h) hE (wn_some g34_3_2 rfl rfl) rfl ⟨B_g, B_gm, trivial⟩ rfl ?_
      clear hE a; intro a hE
      refine d_skip p34_3_7 ns34_3 (by kernel_rfl) (by kernel_rfl) (fun _ _ _ h => h) hE (wn_some g34_3_2 rfl rfl) rfl ⟨B_g, B_gm, trivial⟩ rfl ?_
      clear hE a; intro a hE
      refine d_skip p34_3_8 ns34_3 (by kernel_rfl) (by kernel_rfl) (fun _ _ _ h => h) hE (wn_some g34_3_2 rfl rfl) rfl ⟨B_g, B_gm, trivial⟩ rfl ?_
      clear hE a; intro a hE
      refine d_skip p34_3_9 ns34_3 (by kernel_rfl) (by kernel_rfl) (fun _ _ _ h => h) hE (wn_some g34_3_2 rfl rfl) rfl ⟨B_g, B_gm, trivial⟩ rfl ?_
      clear hE a; intro a hE
      refine d_skip p34_3_10 ns34_3 (by kernel_rfl) (by kernel_rfl) (fun _ _ _ h => h) hE (wn_some g34_3_2 rfl rfl) rfl ⟨B_g, B_gm, trivial⟩ rfl ?_
      clear hE a; intro a hE
      refine d_skip p34_3_11 ns34_3 (by kernel_rfl) (by kernel_rfl) (fun _ _ _ h => h) hE (wn_some g34_3_2 rfl rfl) rfl ⟨B_g, B_gm, trivial⟩ rfl ?_
      clear hE a; intro a hE
      refine d_skip p34_3_12 ns34_3 (by kernel_rfl) (by kernel_rfl) (fun _ _ _ h => h) hE (wn_some g34_3_2 rfl rfl) rfl ⟨B_g, B_gm, trivial⟩ rfl ?_
      clear hE a; intro a hE
      refine d_skip p34_3_13 ns34_3 (by kernel_rfl) (by kernel_rfl) (fun _ _ _ h => h) hE (wn_some g34_3_2 rfl rfl) rfl ⟨B_g, B_gm, trivial⟩ rfl ?_
      clear hE a; intro a hE
      refine d_skip p34_3_14 ns34_3 (by kernel_rfl) (by kernel_rfl) (fun _ _ _ h => h) hE (wn_some g34_3_2 rfl rfl) rfl ⟨B_g, B_gm, trivial⟩ rfl ?_
      clear hE a; intro a hE
      refine d_take (v := Value.bool true) p34_3_15 ns34_3 (by kernel_rfl) (by kernel_rfl) (fun _ _ _ h => h) hE wn_none rfl ⟨B_g, B_gm, trivial⟩ (fun W hS => (st_pick rfl rfl)) rfl ?_
      clear hE a; intro a hE
      refine d_end (by kernel_rfl) ?_
      refine x_norm ?_
      refine c_cond (t := true) hE rfl ?_
      refine c_reg R34_4_l ?_
      refine q0 p34_4_0 hE (st_move rfl) ?_
      clear hE a; intro a hE
      refine q0 p34_4_1 hE (st_assign rfl) ?_
      clear hE a; intro a hE
      refine p_nil ?_
      refine x_norm ?_
      refine wp_ret ?_
      refine x_ret ?_
      refine x_retB ?_
      refine x_ret ?_
      refine x_retB ?_
      refine ret_one (v := Value.slice A_out n_out c_out) rfl hE (.tmp rfl .nil) ?_
      have hfz := fire_none (now := now) hNONE
      rw [hfz, List.append_nil] at hfi
      have hO : fireO now l = acc.map (·.1) := by unfold fireO; rw [hfi]
      have hL : (fireS now l).2 = lc := by rw [hfi]
      rw [hO, hL, ← hn_out]
      exact ⟨A_out, c_out, es9, ck9, rfl, O_out, MF9, B_gm, K_0⟩
    ·
      obtain ⟨p, hp⟩ := Option.ne_none_iff_exists'.1 hNONE
      have hacl : n_out = acc.length := by rw [hn_out, List.length_map]
      rcases Decidable.em (now < p.2) with hLATE | hLATE
      ·
        refine c_reg R34_2_l ?_
        refine q0 p34_2_0 hE (st_move rfl) ?_
        clear hE a; intro a hE
        refine p_cons (s_call (xs := [Operand.tmp 7]) (args := [Value.pointer (some ⟨g, 0, none⟩)]) p34_2_1 hE wn_none rfl rfl Try.func36 cl36 (first_yes g gm ck9 es9 lc now _ (by omega) hp B_g B_gm MF9 n_g_gm) ?_)
        rintro e w4 ⟨rfl, hk⟩
        replace B_g := kp_blk B_g hk (fun h => h)
        replace B_gm := kp_blk B_gm hk (fun h => h)
        replace O_out := own_keep O_out hk (fun _ _ h => h)
        replace K_0 := K_0.then_ hk (fun _ h => h.elim)
        refine ⟨_, rfl, ?_⟩
        clear hE a; intro a hE
        refine q0 p34_2_2 hE (st_move rfl) ?_
        clear hE a; intro a hE
        refine q0 p34_2_3 hE (st_extract rfl rfl) ?_
        clear hE a; intro a hE
        refine q0 p34_2_4 hE (st_extract rfl rfl) ?_
        clear hE a; intro a hE
        refine q0 p34_2_5 hE (st_assign rfl) ?_
        clear hE a; intro a hE
        refine q0 p34_2_6 hE (st_assign rfl) ?_
        clear hE a; intro a hE
        refine p_nil ?_
        refine x_norm ?_
        refine wp_seq ?_
        refine c_drawS (S := fun W => W.heap[g]? = some (.cells #[Value.int .i64 now, Value.map (some gm)] 29 (0, 0)) ∧ W.heap[gm]? = some (.map es9 ck9) ∧ True) rfl rfl (listed := #[false, false, false, false, false, false, false, false, false, false, false, false, false, false, false, false]) rfl ?_
        intro w5 hh hk
        replace B_g := kp_blk B_g hk (fun h => h)
        replace B_gm := kp_blk B_gm hk (fun h => h)
        replace O_out := own_keep O_out hk (fun _ _ h => h)
        replace K_0 := K_0.then_ hk (fun _ h => h.elim)
        clear hh hk
        refine d_take (v := Value.bool true) p34_3_0 ns34_3 (by kernel_rfl) (by kernel_rfl) (fun _ _ _ h => h) hE wn_none rfl ⟨B_g, B_gm, trivial⟩ (fun W hS => (st_move rfl)) rfl ?_
        clear hE a; intro a hE
        refine d_take (v := Value.bool false) p34_3_1 ns34_3 (by kernel_rfl) (by kernel_rfl) (fun _ _ _ h => h) hE wn_none rfl ⟨B_g, B_gm, trivial⟩ (fun W hS => (st_not rfl rfl)) rfl ?_
        clear hE a; intro a hE
        refine d_take (v := Value.bool false) p34_3_2 ns34_3 (by kernel_rfl) (by kernel_rfl) (fun _ _ _ h => h) hE wn_none rfl ⟨B_g, B_gm, trivial⟩ (fun W hS => (st_move rfl)) rfl ?_
        clear hE a; intro a hE
        refine d_take (v := Value.pointer (some ⟨g, 0, none⟩)) p34_3_3 ns34_3 (by kernel_rfl) (by kernel_rfl) (fun _ _ _ h => h) hE (wn_some g34_3_2 rfl rfl) rfl ⟨B_g, B_gm, trivial⟩ (fun W hS => (st_move rfl)) rfl ?_
        clear hE a; intro a hE
        refine d_take (v := Value.pointer (some ⟨g, 0, none⟩)) p34_3_4 ns34_3 (by kernel_rfl) (by kernel_rfl) (fun _ _ _ h => h) hE (wn_some g34_3_2 rfl rfl) rfl ⟨B_g, B_gm, trivial⟩ (fun W hS => (st_nil rfl)) rfl ?_
        clear hE a; intro a hE
        refine d_take (v := Value.pointer (some ⟨g, 1, none⟩)) p34_3_5 ns34_3 (by kernel_rfl) (by kernel_rfl) (fun _ _ _ h => h) hE (wn_some g34_3_2 rfl rfl) rfl ⟨B_g, B_gm, trivial⟩ (fun W hS => (st_fieldAddr Try.underlying29 rfl tS27 rfl rfl)) rfl ?_
        clear hE a; intro a hE
        refine d_take (v := Value.map (some gm)) p34_3_6 ns34_3 (by kernel_rfl) (by kernel_rfl) (fun _ _ _ h => h) hE (wn_some g34_3_2 rfl rfl) rfl ⟨B_g, B_gm, trivial⟩ (fun W hS => (st_load1 tA27 rfl ((blk_cell hS.1 1).trans rfl))) rfl ?_
        clear hE a; intro a hE
        refine d_take (v := Value.int .i64 p.1) p34_3_7 ns34_3 (by kernel_rfl) (by kernel_rfl) (fun _ _ _ h => h) hE (wn_some g34_3_2 rfl rfl) rfl ⟨B_g, B_gm, trivial⟩ (fun W hS => (st_move rfl)) rfl ?_
        clear hE a; intro a hE
        refine d_take (v := Value.pointer (some ⟨g, 0, none⟩)) p34_3_9 ns34_3 (by kernel_rfl) (by kernel_rfl) (fun _ _ _ h => h) hE (wn_some g34_3_2 rfl rfl) rfl ⟨B_g, B_gm, trivial⟩ (fun W hS => (st_move rfl)) rfl ?_
        clear hE a; intro a hE
        refine d_take (v := Value.pointer (some ⟨g, 0, none⟩)) p34_3_10 ns34_3 (by kernel_rfl) (by kernel_rfl) (fun _ _ _ h => h) hE (wn_some g34_3_2 rfl rfl) rfl ⟨B_g, B_gm, trivial⟩ (fun W hS => (st_nil rfl)) rfl ?_
        clear hE a; intro a hE
        refine d_take (v := Value.pointer (some ⟨g, 0, none⟩)) p34_3_11 ns34_3 (by kernel_rfl) (by kernel_rfl) (fun _ _ _ h => h) hE (wn_some g34_3_2 rfl rfl) rfl ⟨B_g, B_gm, trivial⟩ (fun W hS => (st_fieldAddr Try.underlying29 rfl tS26 rfl rfl)) rfl ?_
        clear hE a; intro a hE
        refine d_take (v := Value.pointer (some ⟨g, 0, none⟩)) p34_3_12 ns34_3 (by kernel_rfl) (by kernel_rfl) (fun _ _ _ h => h) hE (wn_some g34_3_2 rfl rfl) rfl ⟨B_g, B_gm, trivial⟩ (fun W hS => (st_fieldAddr Try.underlying26 rfl tS3 rfl rfl)) rfl ?_
        clear hE a; intro a hE
        refine d_take (v := Value.int .i64 now) p34_3_13 ns34_3 (by kernel_rfl) (by kernel_rfl) (fun _ _ _ h => h) hE (wn_some g34_3_2 rfl rfl) rfl ⟨B_g, B_gm, trivial⟩ (fun W hS => (st_load1 tA3 rfl ((blk_cell hS.1 0).trans rfl))) rfl ?_
        clear hE a; intro a hE
        refine d_one (by kernel_rfl) rfl (s_still (v := Value.int .i64 p.2) p34_3_8 hE (wn_some g34_3_2 rfl rfl) rfl (Mi.st_look1 Try.underlying27 Try.underlying3 tZ3 rfl rfl MF9 B_gm (by rw [due_enc, dueI_mem MF9.nodup (firstI_spec hp).1])) ?_)
        clear hE a; intro a hE
        refine ⟨⟨B_g, B_gm, trivial⟩, ?_⟩
        refine d_take (v := Value.bool true) p34_3_14 ns34_3 (by kernel_rfl) (by kernel_rfl) (fun _ _ _ h => h) hE (wn_some g34_3_2 rfl rfl) rfl ⟨B_g, B_gm, trivial⟩ (fun W hS => (st_gtr (b := true) rfl rfl (decide_eq_true hLATE))) rfl ?_
        clear hE a; intro a hE
        refine d_take (v := Value.bool true) p34_3_15 ns34_3 (by kernel_rfl) (by kernel_rfl) (fun _ _ _ h => h) hE wn_none rfl ⟨B_g, B_gm, trivial⟩ (fun W hS => (st_pick rfl rfl)) rfl ?_
        clear hE a; intro a hE
        refine d_end (by kernel_rfl) ?_
        refine x_norm ?_
        refine c_cond (t := true) hE rfl ?_
        refine c_reg R34_4_l ?_
        refine q0 p34_4_0 hE (st_move rfl) ?_
        clear hE a; intro a hE
        refine q0 p34_4_1 hE (st_assign rfl) ?_
        clear hE a; intro a hE
        refine p_nil ?_
        refine x_norm ?_
        refine wp_ret ?_
        refine x_ret ?_
        refine x_retB ?_
        refine x_ret ?_
        refine x_retB ?_
        refine ret_one (v := Value.slice A_out n_out c_out) rfl hE (.tmp rfl .nil) ?_
        have hfz := fire_stop hp hLATE
        rw [hfz, List.append_nil] at hfi
        have hO : fireO now l = acc.map (·.1) := by unfold fireO; rw [hfi]
        have hL : (fireS now l).2 = lc := by rw [hfi]
        rw [hO, hL, ← hn_out]
        exact ⟨A_out, c_out, es9, ck9, rfl, O_out, MF9, B_gm, K_0⟩
      ·
        refine c_reg R34_2_l ?_
        refine q0 p34_2_0 hE (st_move rfl) ?_
        clear hE a; intro a hE
        refine p_cons (s_call (xs := [Operand.tmp 7]) (args := [Value.pointer (some ⟨g, 0, none⟩)]) p34_2_1 hE wn_none rfl rfl Try.func36 cl36 (first_yes g gm ck9 es9 lc now _ (by omega) hp B_g B_gm MF9 n_g_gm) ?_)
        rintro e w6 ⟨rfl, hk⟩
        replace B_g := kp_blk B_g hk (fun h => h)
        replace B_gm := kp_blk B_gm hk (fun h => h)
        replace O_out := own_keep O_out hk (fun _ _ h => h)
        replace K_0 := K_0.then_ hk (fun _ h => h.elim)
        refine ⟨_, rfl, ?_⟩
        clear hE a; intro a hE
        refine q0 p34_2_2 hE (st_move rfl) ?_
        clear hE a; intro a hE
        refine q0 p34_2_3 hE (st_extract rfl rfl) ?_
        clear hE a; intro a hE
        refine q0 p34_2_4 hE (st_extract rfl rfl) ?_
        clear hE a; intro a hE
        refine q0 p34_2_5 hE (st_assign rfl) ?_
        clear hE a; intro a hE
        refine q0 p34_2_6 hE (st_assign rfl) ?_
        clear hE a; intro a hE
        refine p_nil ?_
        refine x_norm ?_
        refine wp_seq ?_
        refine c_drawS (S := fun W => W.heap[g]? = some (.cells #[Value.int .i64 now, Value.map (some gm)] 29 (0, 0)) ∧ W.heap[gm]? = some (.map es9 ck9) ∧ True) rfl rfl (listed := #[false, false, false, false, false, false, false, false, false, false, false, false, false, false, false, false]) rfl ?_
        intro w7 hh hk
        replace B_g := kp_blk B_g hk (fun h => h)
        replace B_gm := kp_blk B_gm hk (fun h => h)
        replace O_out := own_keep O_out hk (fun _ _ h => h)
        replace K_0 := K_0.then_ hk (fun _ h => h.elim)
        clear hh hk
        refine d_take (v := Value.bool true) p34_3_0 ns34_3 (by kernel_rfl) (by kernel_rfl) (fun _ _ _ h => h) hE wn_none rfl ⟨B_g, B_gm, trivial⟩ (fun W hS => (st_move rfl)) rfl ?_
        clear hE a; intro a hE
        refine d_take (v := Value.bool false) p34_3_1 ns34_3 (by kernel_rfl) (by kernel_rfl) (fun _ _ _ h => h) hE wn_none rfl ⟨B_g, B_gm, trivial⟩ (fun W hS => (st_not rfl rfl)) rfl ?_
        clear hE a; intro a hE
        refine d_take (v := Value.bool false) p34_3_2 ns34_3 (by kernel_rfl) (by kernel_rfl) (fun _ _ _ h => h) hE wn_none rfl ⟨B_g, B_gm, trivial⟩ (fun W hS => (st_move rfl)) rfl ?_
        clear hE a; intro a hE
        refine d_take (v := Value.pointer (some ⟨g, 0, none⟩)) p34_3_3 ns34_3 (by kernel_rfl) (by kernel_rfl) (fun _ _ _ h => h) hE (wn_some g34_3_2 rfl rfl) rfl ⟨B_g, B_gm, trivial⟩ (fun W hS => (st_move rfl)) rfl ?_
        clear hE a; intro a hE
        refine d_take (v := Value.pointer (some ⟨g, 0, none⟩)) p34_3_4 ns34_3 (by kernel_rfl) (by kernel_rfl) (fun _ _ _ h => h) hE (wn_some g34_3_2 rfl rfl) rfl ⟨B_g, B_gm, trivial⟩ (fun W hS => (st_nil rfl)) rfl ?_
        clear hE a; intro a hE
        refine d_take (v := Value.pointer (some ⟨g, 1, none⟩)) p34_3_5 ns34_3 (by kernel_rfl) (by kernel_rfl) (fun _ _ _ h => h) hE (wn_some g34_3_2 rfl rfl) rfl ⟨B_g, B_gm, trivial⟩ (fun W hS => (st_fieldAddr Try.underlying29 rfl tS27 rfl rfl)) rfl ?_
        clear hE a; intro a hE
        refine d_take (v := Value.map (some gm)) p34_3_6 ns34_3 (by kernel_rfl) (by kernel_rfl) (fun _ _ _ h => h) hE (wn_some g34_3_2 rfl rfl) rfl ⟨B_g, B_gm, trivial⟩ (fun W hS => (st_load1 tA27 rfl ((blk_cell hS.1 1).trans rfl))) rfl ?_
        clear hE a; intro a hE
        refine d_take (v := Value.int .i64 p.1) p34_3_7 ns34_3 (by kernel_rfl) (by kernel_rfl) (fun _ _ _ h => h) hE (wn_some g34_3_2 rfl rfl) rfl ⟨B_g, B_gm, trivial⟩ (fun W hS => (st_move rfl)) rfl ?_
        clear hE a; intro a hE
        refine d_take (v := Value.pointer (some ⟨g, 0, none⟩)) p34_3_9 ns34_3 (by kernel_rfl) (by kernel_rfl) (fun _ _ _ h => h) hE (wn_some g34_3_2 rfl rfl) rfl ⟨B_g, B_gm, trivial⟩ (fun W hS => (st_move rfl)) rfl ?_
        clear hE a; intro a hE
        refine d_take (v := Value.pointer (some ⟨g, 0, none⟩)) p34_3_10 ns34_3 (by kernel_rfl) (by kernel_rfl) (fun _ _ _ h => h) hE (wn_some g34_3_2 rfl rfl) rfl ⟨B_g, B_gm, trivial⟩ (fun W hS => (st_nil rfl)) rfl ?_
        clear hE a; intro a hE
        refine d_take (v := Value.pointer (some ⟨g, 0, none⟩)) p34_3_11 ns34_3 (by kernel_rfl) (by kernel_rfl) (fun _ _ _ h => h) hE (wn_some g34_3_2 rfl rfl) rfl ⟨B_g, B_gm, trivial⟩ (fun W hS => (st_fieldAddr Try.underlying29 rfl tS26 rfl rfl)) rfl ?_
        clear hE a; intro a hE
        refine d_take (v := Value.pointer (some ⟨g, 0, none⟩)) p34_3_12 ns34_3 (by kernel_rfl) (by kernel_rfl) (fun _ _ _ h => h) hE (wn_some g34_3_2 rfl rfl) rfl ⟨B_g, B_gm, trivial⟩ (fun W hS => (st_fieldAddr Try.underlying26 rfl tS3 rfl rfl)) rfl ?_
        clear hE a; intro a hE
        refine d_take (v := Value.int .i64 now) p34_3_13 ns34_3 (by kernel_rfl) (by kernel_rfl) (fun _ _ _ h => h) hE (wn_some g34_3_2 rfl rfl) rfl ⟨B_g, B_gm, trivial⟩ (fun W hS => (st_load1 tA3 rfl ((blk_cell hS.1 0).trans rfl))) rfl ?_
        clear hE a; intro a hE
        refine d_one (by kernel_rfl) rfl (s_still (v := Value.int .i64 p.2) p34_3_8 hE (wn_some g34_3_2 rfl rfl) rfl (Mi.st_look1 Try.underlying27 Try.underlying3 tZ3 rfl rfl MF9 B_gm (by rw [due_enc, dueI_mem MF9.nodup (firstI_spec hp).1])) ?_)
        clear hE a; intro a hE
        refine ⟨⟨B_g, B_gm, trivial⟩, ?_⟩
        refine d_take (v := Value.bool false) p34_3_14 ns34_3 (by kernel_rfl) (by kernel_rfl) (fun _ _ _ h => h) hE (wn_some g34_3_2 rfl rfl) rfl ⟨B_g, B_gm, trivial⟩ (fun W hS => (st_gtr (b := false) rfl rfl (decide_eq_false hLATE))) rfl ?_
        clear hE a; intro a hE
        refine d_take (v := Value.bool false) p34_3_15 ns34_3 (by kernel_rfl) (by kernel_rfl) (fun _ _ _ h => h) hE wn_none rfl ⟨B_g, B_gm, trivial⟩ (fun W hS => (st_pick rfl rfl)) rfl ?_
        clear hE a; intro a hE
        refine d_end (by kernel_rfl) ?_
        refine x_norm ?_
        refine c_cond (t := false) hE rfl ?_
        refine wp_skip ?_
        refine x_norm ?_
        refine c_reg R34_5_l ?_
        refine q0 p34_5_0 hE (st_move rfl) ?_
        clear hE a; intro a hE
        refine q0 p34_5_1 hE (st_nil rfl) ?_
        clear hE a; intro a hE
        refine q0 p34_5_2 hE (st_fieldAddr Try.underlying29 rfl tS27 rfl rfl) ?_
        clear hE a; intro a hE
        refine q0 p34_5_3 hE (st_load1 tA27 rfl ((blk_cell B_g 1).trans rfl)) ?_
        clear hE a; intro a hE
        refine q0 p34_5_4 hE (st_move rfl) ?_
        clear hE a; intro a hE
        refine p_cons (Mi.s_delI p34_5_5 hE wn_none Try.underlying27 Try.underlying3 rfl rfl MF9 B_gm ?_)
        intro esm9 ckm9 w8 MF_m9 B_gm' hk
        replace B_g := kp_blk B_g hk n_g_gm
        replace O_out := own_keep O_out hk (fun k hk2 h2 => Nb_out_gm (by rw [show k = gm from h2] at hk2; exact hk2))
        replace K_0 := K_0.then_ hk (fun k h => by rw [show k = gm from h]; exact Or.inl rfl)
        replace B_gm := B_gm'
        clear hk
        refine p_nil ?_
        refine x_norm ?_
        refine c_regL R34_6_l ?_
        refine q0 p34_6_0 hE (st_move rfl) ?_
        clear hE a; intro a hE
        refine q0 p34_6_1 hE (st_move rfl) ?_
        clear hE a; intro a hE
        refine p_cons (s_row (xs := [(0, Operand.tmp 34)]) (vs := [(0, Value.int .i64 p.1)]) (cs := #[Value.int .i64 p.1]) p34_6_2 hE wn_none rfl Try.underlying35 rfl (by kernel_rfl) ?_)
        clear hE a; intro g10 w11 z12 B_g10 hk a hE
        have n_g_g10 : g ≠ g10 := ne_new B_g z12
        have n_gm_g10 : gm ≠ g10 := ne_new B_gm z12
        have z_0_g10 := Nat.le_trans K_0.kept.1 z12
        have Nb_out_g10 : ¬ OB A_out g10 := fun h => by have := (own_ob O_out h).2; omega
        replace B_g := kp_blk B_g hk (fun h => h)
        replace B_gm := kp_blk B_gm hk (fun h => h)
        replace O_out := own_keep O_out hk (fun _ _ h => h)
        replace K_0 := K_0.then_ hk (fun _ h => h.elim)
        clear hk
        refine p_cons (s_appendC (xs := (acc.map (·.1))) (ys := [p.1]) p34_6_3 hE wn_none rfl Try.underlying35 eD3 rfl O_out rfl (C_blk (k := .i64) (l := [p.1]) (off := 0) B_g10 ⟨rfl, Nat.le_of_ble_eq_true rfl⟩ rfl) (by omega) (by omega) K_0.kept.1 ?_)
        clear hE a; intro Aout13 cout14 w15 O_out' hk hat a hE
        have Nb_out_g' := grow_n Nb_out_g (blk_lt B_g) hat
        have Nb_out_gm' := grow_n Nb_out_gm (blk_lt B_gm) hat
        have Nb_out_g10' := grow_n Nb_out_g10 (blk_lt B_g10) hat
        have Z_0_out' := grow_z Z_0_out K_0.kept.1 hat
        replace B_g := kp_blk B_g hk Nb_out_g
        replace B_gm := kp_blk B_gm hk Nb_out_gm
        replace B_g10 := kp_blk B_g10 hk Nb_out_g10
        replace K_0 := K_0.then_ hk Z_0_out
        replace Nb_out_g := Nb_out_g'
        replace Nb_out_gm := Nb_out_gm'
        replace Nb_out_g10 := Nb_out_g10'
        replace Z_0_out := Z_0_out'
        replace O_out : w15.ownsRow _ 3 1 (.slice Aout13 (n_out + 1) cout14) (n_out + 1) (encs (Value.int .i64) ((acc.map (·.1)) ++ [p.1])) := O_out'
        clear O_out' hk hat
        refine q0 p34_6_4 hE (st_assign rfl) ?_
        clear hE a; intro a hE
        refine p_nil ?_
        refine x_normB ?_
        refine x_norm ?_
        have e9 : acc.map (·.1) ++ [p.1] = (acc ++ [p]).map (·.1) := by rw [List.map_append]; rfl
        rw [e9] at O_out
        have hfi9 : fireS now l = ((acc ++ [p]) ++ (fireS now (delI lc p.1)).1, (fireS now (delI lc p.1)).2) := by rw [hfi, fire_on MF9.nodup hp hLATE, List.append_assoc]; rfl
        have hdl := (delI_perm MF9.nodup (firstI_spec hp).1).length_eq
        rw [List.length_cons] at hdl
        have hln9 : (n_out + 1) = ((acc ++ [p]).map (·.1)).length := by rw [List.length_map, List.length_append, hn_out, List.length_map]; rfl
        have hal9 : (acc ++ [p]).length + (delI lc p.1).length ≤ l.length := by rw [List.length_append]; show acc.length + 1 + _ ≤ _; omega
        have MFe := MF_m9
        exact ⟨(delI lc p.1), (by omega), Aout13, cout14, (n_out + 1), esm9, ckm9, (acc ++ [p]), En.sub hE ⟨rfl, rfl, trivial⟩, MFe, hfi9, hal9, B_g, B_gm, hln9, O_out, Nb_out_g, Nb_out_gm, Z_0_out, K_0⟩
theorem R33_0_l : List.range (regOf Try.f33 0).size = [0] := by kernel_rfl
theorem R33_1_l : List.range (regOf Try.f33 1).size = [0, 1, 2, 3, 4, 5] := by kernel_rfl
theorem body33 : Try.f33.body = some (.seq (.region 0 (regOf Try.f33 0) false) (.seq (.region 1 (regOf Try.f33 1) false) (.ret))) := by kernel_rfl
theorem p33_0_0 : pj (regOf Try.f33 0) 0 = some (some 2, .assign (.const (.bool false)), 4, none) := by kernel_rfl
theorem p33_1_0 : pj (regOf Try.f33 1) 0 = some (some 3, .move (.tmp 0), 92, none) := by kernel_rfl
theorem p33_1_1 : pj (regOf Try.f33 1) 1 = some (some 4, .nilCheck (.tmp 3), 0, none) := by kernel_rfl
theorem p33_1_2 : pj (regOf Try.f33 1) 2 = some (some 5, .fieldAddr 26 (.tmp 4) 0, 0, none) := by kernel_rfl
theorem p33_1_3 : pj (regOf Try.f33 1) 3 = some (some 6, .load 3 (.tmp 5), 3, none) := by kernel_rfl
theorem p33_1_4 : pj (regOf Try.f33 1) 4 = some (some 7, .binOp .lss 3 (.tmp 6) (.const (.int .i64 2305843009213693952)) 3, 4, none) := by kernel_rfl
theorem p33_1_5 : pj (regOf Try.f33 1) 5 = some (some 2, .assign (.tmp 7), 4, none) := by kernel_rfl
set_option maxHeartbeats 4000000 in
theorem may_yes (g : Nat) (now : Int) (V : Value) (w : World) (hnow : now < 2305843009213693952) (hg : w.heap[g]? = some (.cells #[.int .i64 now, V] 29 (0, 0))) : Calls Try.prog 33 #[.pointer (some ⟨g, 0, none⟩)] w fun e w' => e = .returned (.bool true) ∧ Kp w w' (fun _ => False) := by
  have K_0 := Kp.refl w (fun _ => False)
  have B_g := hg
  refine enter (args := [Value.pointer (some ⟨g, 0, none⟩)]) (n := 8) Try.func33 body33 rfl rfl rfl ?_
  intro a hE
  refine c_reg R33_0_l ?_
  refine q0 p33_0_0 hE (st_assign rfl) ?_
  clear hE a; intro a hE
  refine p_nil ?_
  refine x_norm ?_
  refine c_reg R33_1_l ?_
  refine q0 p33_1_0 hE (st_move rfl) ?_
  clear hE a; intro a hE
  refine q0 p33_1_1 hE (st_nil rfl) ?_
  clear hE a; intro a hE
  refine q0 p33_1_2 hE (st_fieldAddr Try.underlying26 rfl tS3 rfl rfl) ?_
  clear hE a; intro a hE
  refine q0 p33_1_3 hE (st_load1 tA3 rfl ((blk_cell B_g 0).trans rfl)) ?_
  clear hE a; intro a hE
  refine q0 p33_1_4 hE (st_lss (b := true) rfl rfl (decide_eq_true hnow)) ?_
  clear hE a; intro a hE
  refine q0 p33_1_5 hE (st_assign rfl) ?_
  clear hE a; intro a hE
  refine p_nil ?_
  refine x_norm ?_
  refine wp_ret ?_
  refine ret_one (v := Value.bool true) rfl hE (.tmp rfl .nil) ?_
  exact ⟨rfl, K_0⟩
theorem R10_0_l : List.range (regOf Try.f10 0).size = [0] := by kernel_rfl
theorem R10_1_l : List.range (regOf Try.f10 1).size = [0, 1, 2, 3, 4, 5, 6, 7, 8] := by kernel_rfl
theorem R10_2_l : List.range (regOf Try.f10 2).size = [0] := by kernel_rfl
theorem R10_3_l : List.range (regOf Try.f10 3).size = [0, 1, 2, 3, 4, 5, 6, 7, 8, 9] := by kernel_rfl
theorem R10_4_l : List.range (regOf Try.f10 4).size = [0, 1, 2] := by kernel_rfl
theorem body10 : Try.f10.body = some (.seq (.region 0 (regOf Try.f10 0) false) (.seq (.seq (.region 1 (regOf Try.f10 1) false) (.cond (Operand.tmp 11) (.seq (.region 2 (regOf Try.f10 2) false) (.ret)) (.skip))) (.seq (.region 3 (regOf Try.f10 3) false) (.seq (.region 4 (regOf Try.f10 4) false) (.ret))))) := by kernel_rfl
theorem p10_0_0 : pj (regOf Try.f10 0) 0 = some (some 2, .assign (.const (.slice none 0 0)), 35, none) := by kernel_rfl
theorem p10_1_0 : pj (regOf Try.f10 1) 0 = some (some 3, .move (.tmp 0), 24, none) := by kernel_rfl
theorem p10_1_1 : pj (regOf Try.f10 1) 1 = some (some 4, .binOp .eql 24 (.tmp 3) (.const (.pointer none)) 24, 4, none) := by kernel_rfl
theorem tP24 : Try.prog.underlying 24 = some (.pointer (Try.prog.pointee 24)) := by kernel_rfl
theorem p10_1_2 : pj (regOf Try.f10 1) 2 = some (some 5, .move (.tmp 4), 4, none) := by kernel_rfl
theorem p10_1_3 : pj (regOf Try.f10 1) 3 = some (some 6, .move (.tmp 0), 24, some (2, false)) := by kernel_rfl
theorem g10_1_2 : dstOf (regOf Try.f10 1) 2 = some 5 := by kernel_rfl
theorem p10_1_4 : pj (regOf Try.f10 1) 4 = some (some 7, .nilCheck (.tmp 6), 0, some (2, false)) := by kernel_rfl
theorem p10_1_5 : pj (regOf Try.f10 1) 5 = some (some 8, .fieldAddr 29 (.tmp 7) 0, 0, some (2, false)) := by kernel_rfl
theorem p10_1_6 : pj (regOf Try.f10 1) 6 = some (some 9, .call { callee := .value (.func 33), args := #[.tmp 8], argTypes := #[26] }, 4, some (2, false)) := by kernel_rfl
theorem cl33 : callable Try.f33 = true := by kernel_rfl
theorem p10_1_7 : pj (regOf Try.f10 1) 7 = some (some 10, .unOp .not 4 (.tmp 9), 4, some (2, false)) := by kernel_rfl
theorem p10_1_8 : pj (regOf Try.f10 1) 8 = some (some 11, .pick (.tmp 5) (.const (.bool true)) (.tmp 10), 4, none) := by kernel_rfl
theorem p10_3_0 : pj (regOf Try.f10 3) 0 = some (some 12, .move (.tmp 0), 24, none) := by kernel_rfl
theorem p10_3_1 : pj (regOf Try.f10 3) 1 = some (some 13, .nilCheck (.tmp 12), 0, none) := by kernel_rfl
theorem p10_3_2 : pj (regOf Try.f10 3) 2 = some (some 14, .fieldAddr 29 (.tmp 13) 0, 0, none) := by kernel_rfl
theorem p10_3_3 : pj (regOf Try.f10 3) 3 = some (some 15, .fieldAddr 26 (.tmp 14) 0, 0, none) := by kernel_rfl
theorem p10_3_4 : pj (regOf Try.f10 3) 4 = some (some 16, .load 3 (.tmp 15), 3, none) := by kernel_rfl
theorem p10_3_5 : pj (regOf Try.f10 3) 5 = some (some 17, .binOp .add 3 (.tmp 16) (.const (.int .i64 1)) 3, 3, none) := by kernel_rfl
theorem p10_3_6 : pj (regOf Try.f10 3) 6 = some (some 18, .nilCheck (.tmp 12), 0, none) := by kernel_rfl
theorem p10_3_7 : pj (regOf Try.f10 3) 7 = some (some 19, .fieldAddr 29 (.tmp 18) 0, 0, none) := by kernel_rfl
theorem p10_3_8 : pj (regOf Try.f10 3) 8 = some (some 20, .fieldAddr 26 (.tmp 19) 0, 0, none) := by kernel_rfl
theorem p10_3_9 : pj (regOf Try.f10 3) 9 = some (none, .store 3 (.tmp 20) (.tmp 17), 0, none) := by kernel_rfl
theorem p10_4_0 : pj (regOf Try.f10 4) 0 = some (some 21, .move (.tmp 0), 24, none) := by kernel_rfl
theorem p10_4_1 : pj (regOf Try.f10 4) 1 = some (some 22, .call { callee := .value (.func 34), args := #[.tmp 21], argTypes := #[24] }, 35, none) := by kernel_rfl
theorem cl34 : callable Try.f34 = true := by kernel_rfl
theorem p10_4_2 : pj (regOf Try.f10 4) 2 = some (some 2, .assign (.tmp 22), 35, none) := by kernel_rfl
set_option maxHeartbeats 4000000 in
theorem tick_any (g gm ck : Nat) (es : Array MapEntry) (l : Wp.LW) (now : Int) (w : World) (hnow : 0 ≤ now ∧ now < 2305843009213693952) (hll : l.length ≤ 1000) (hg : w.heap[g]? = some (.cells #[.int .i64 now, .map (some gm)] 29 (0, 0))) (hm : w.heap[gm]? = some (.map es ck)) (hF : MapI (Value.int .i64) es ck l) (hne : g ≠ gm) : Calls Try.prog 10 #[.pointer (some ⟨g, 0, none⟩)] w fun e w' => ∃ A c es' ck', e = .returned (.slice A (fireO (now + 1) l).length c) ∧ w'.ownsRow w.heap.size 3 1 (.slice A (fireO (now + 1) l).length c) (fireO (now + 1) l).length (encs (Value.int .i64) (fireO (now + 1) l)) ∧ MapI (Value.int .i64) es' ck' (fireS (now + 1) l).2 ∧ w'.heap[gm]? = some (.map es' ck') ∧ w'.heap[g]? = some (.cells #[.int .i64 (now + 1), .map (some gm)] 29 (0, 0)) ∧ Kp w w' (fun k => k = g ∨ k = gm) := by
  have K_0 := Kp.refl w (fun k => k = g ∨ k = gm)
  have B_g := hg
  have B_gm := hm
  have n_g_gm := hne
  refine enter (args := [Value.pointer (some ⟨g, 0, none⟩)]) (n := 23) Try.func10 body10 rfl rfl rfl ?_
  intro a hE
  refine c_reg R10_0_l ?_
  refine q0 p10_0_0 hE (st_assign rfl) ?_
  clear hE a; intro a hE
  refine p_nil ?_
  refine x_norm ?_
  refine wp_seq ?_
  refine c_reg R10_1_l ?_
  refine q0 p10_1_0 hE (st_move rfl) ?_
  clear hE a; intro a hE
  refine q0 p10_1_1 hE (st_eqlP (b := false) tP24 rfl rfl rfl) ?_
  clear hE a; intro a hE
  refine q0 p10_1_2 hE (st_move rfl) ?_
  clear hE a; intro a hE
  refine p_cons (s_still p10_1_3 hE (wn_some g10_1_2 rfl rfl) rfl (st_move rfl) ?_)
  clear hE a; intro a hE
  refine p_cons (s_still p10_1_4 hE (wn_some g10_1_2 rfl rfl) rfl (st_nil rfl) ?_)
  clear hE a; intro a hE
  refine p_cons (s_still p10_1_5 hE (wn_some g10_1_2 rfl rfl) rfl (st_fieldAddr Try.underlying29 rfl tS26 rfl rfl) ?_)
  clear hE a; intro a hE
  refine p_cons (s_call (xs := [Operand.tmp 8]) (args := [Value.pointer (some ⟨g, 0, none⟩)]) p10_1_6 hE (wn_some g10_1_2 rfl rfl) rfl rfl Try.func33 cl33 (may_yes g now (Value.map (some gm)) _ hnow.2 B_g) ?_)
  rintro e w1 ⟨rfl, hk⟩
  replace B_g := kp_blk B_g hk (fun h => h)
  replace B_gm := kp_blk B_gm hk (fun h => h)
  replace K_0 := K_0.then_ hk (fun _ h => h.elim)
  refine ⟨_, rfl, ?_⟩
  clear hE a; intro a hE
  refine p_cons (s_still p10_1_7 hE (wn_some g10_1_2 rfl rfl) rfl (st_not rfl rfl) ?_)
  clear hE a; intro a hE
  refine q0 p10_1_8 hE (st_pick rfl rfl) ?_
  clear hE a; intro a hE
  refine p_nil ?_
  refine x_norm ?_
  refine c_cond (t := false) hE rfl ?_
  refine wp_skip ?_
  refine x_norm ?_
  refine c_reg R10_3_l ?_
  refine q0 p10_3_0 hE (st_move rfl) ?_
  clear hE a; intro a hE
  refine q0 p10_3_1 hE (st_nil rfl) ?_
  clear hE a; intro a hE
  refine q0 p10_3_2 hE (st_fieldAddr Try.underlying29 rfl tS26 rfl rfl) ?_
  clear hE a; intro a hE
  refine q0 p10_3_3 hE (st_fieldAddr Try.underlying26 rfl tS3 rfl rfl) ?_
  clear hE a; intro a hE
  refine q0 p10_3_4 hE (st_load1 tA3 rfl ((blk_cell B_g 0).trans rfl)) ?_
  clear hE a; intro a hE
  refine q0 p10_3_5 hE (st_add (z := now + 1) rfl rfl (wr_i64 _ (by omega) (by omega))) ?_
  clear hE a; intro a hE
  refine q0 p10_3_6 hE (st_nil rfl) ?_
  clear hE a; intro a hE
  refine q0 p10_3_7 hE (st_fieldAddr Try.underlying29 rfl tS26 rfl rfl) ?_
  clear hE a; intro a hE
  refine q0 p10_3_8 hE (st_fieldAddr Try.underlying26 rfl tS3 rfl rfl) ?_
  clear hE a; intro a hE
  refine p_cons (s_store (off := 0) (k := 1) (cs' := #[Value.int .i64 (now + 1), Value.map (some gm)]) p10_3_9 hE wn_none tS3 rfl rfl rfl rfl B_g (Nat.le_of_ble_eq_true rfl) rfl ?_)
  intro w2 B_g' hk
  replace B_gm := kp_blk B_gm hk (Ne.symm n_g_gm)
  replace K_0 := K_0.then_ hk (fun k h => by rw [show k = g from h]; exact Or.inl (Or.inl rfl))
  replace B_g := B_g'
  clear hk
  refine p_nil ?_
  refine x_norm ?_
  refine c_reg R10_4_l ?_
  refine q0 p10_4_0 hE (st_move rfl) ?_
  clear hE a; intro a hE
  have hnb_g := blk_lt B_g
  have hnb_gm := blk_lt B_gm
  have hnz_0 := K_0.kept.1
  refine p_cons (s_call (xs := [Operand.tmp 21]) (args := [Value.pointer (some ⟨g, 0, none⟩)]) p10_4_1 hE wn_none rfl rfl Try.func34 cl34 (fire_any g gm ck es l (now + 1) _ hll B_g B_gm hF n_g_gm) ?_)
  rintro e w9 ⟨A3, c4, es5, ck6, rfl, O_q7, MF8, B_gm', hk⟩
  replace B_g := kp_blk B_g hk n_g_gm
  replace K_0 := K_0.then_ hk (fun k h => by rw [show k = gm from h]; exact Or.inl (Or.inr rfl))
  replace B_gm := B_gm'
  have Nb_q7_g : ¬ OB A3 g := fun h => by have := (own_ob O_q7 h).1; have := hnb_g; omega
  have Nb_q7_gm : ¬ OB A3 gm := fun h => by have := (own_ob O_q7 h).1; have := hnb_gm; omega
  have Z_0_q7 : ∀ k, OB A3 k → (fun k => k = g ∨ k = gm) k ∨ w.heap.size ≤ k := fun k h => .inr (by have := (own_ob O_q7 h).1; have := hnz_0; omega)
  replace O_q7 := own_lower O_q7 hnz_0
  refine ⟨_, rfl, ?_⟩
  clear hE a; intro a hE
  refine q0 p10_4_2 hE (st_assign rfl) ?_
  clear hE a; intro a hE
  refine p_nil ?_
  refine x_norm ?_
  refine wp_ret ?_
  refine ret_one (v := Value.slice A3 ((fireO (now + 1) l).length) c4) rfl hE (.tmp rfl .nil) ?_
  exact ⟨A3, c4, es5, ck6, rfl, O_q7, MF8, B_gm, B_g, K_0⟩
theorem R13_0_l : List.range (regOf Try.f13 0).size = [0, 1] := by kernel_rfl
theorem R13_1_l : List.range (regOf Try.f13 1).size = [0, 1, 2] := by kernel_rfl
theorem R13_2_l : List.range (regOf Try.f13 2).size = [0, 1] := by kernel_rfl
theorem R13_3_l : List.range (regOf Try.f13 3).size = [0, 1, 2, 3, 4, 5, 6] := by kernel_rfl
theorem R13_4_l : List.range (regOf Try.f13 4).size = [0, 1] := by kernel_rfl
theorem R13_5_l : List.range (regOf Try.f13 5).size = [0, 1, 2, 3, 4, 5, 6, 7, 8, 9, 10, 11, 12, 13, 14, 15, 16, 17] := by kernel_rfl
theorem R13_6_l : List.range (regOf Try.f13 6).size = [0, 1, 2, 3] := by kernel_rfl
theorem body13 : Try.f13.body = some (.seq (.region 0 (regOf Try.f13 0) false) (.seq (.block 0 (.seq (.region 1 (regOf Try.f13 1) false) (.cond (Operand.tmp 6) (.seq (.region 2 (regOf Try.f13 2) false) (.ret)) (.seq (.region 3 (regOf Try.f13 3) false) (.cond (Operand.tmp 9) (.seq (.region 4 (regOf Try.f13 4) false) (.ret)) (.skip)))))) (.seq (.region 5 (regOf Try.f13 5) true) (.seq (.region 6 (regOf Try.f13 6) false) (.ret))))) := by kernel_rfl
theorem p13_0_0 : pj (regOf Try.f13 0) 0 = some (some 4, .assign (.const (.slice none 0 0)), 35, none) := by kernel_rfl
theorem p13_0_1 : pj (regOf Try.f13 0) 1 = some (some 5, .assign (.const (.int .i64 0)), 30, none) := by kernel_rfl
theorem p13_1_0 : pj (regOf Try.f13 1) 0 = some (some 7, .move (.tmp 0), 24, none) := by kernel_rfl
theorem p13_1_1 : pj (regOf Try.f13 1) 1 = some (some 8, .binOp .eql 24 (.tmp 7) (.const (.pointer none)) 24, 4, none) := by kernel_rfl
theorem p13_1_2 : pj (regOf Try.f13 1) 2 = some (some 6, .assign (.tmp 8), 4, none) := by kernel_rfl
theorem p13_3_0 : pj (regOf Try.f13 3) 0 = some (some 10, .move (.tmp 1), 3, none) := by kernel_rfl
theorem p13_3_1 : pj (regOf Try.f13 3) 1 = some (some 11, .binOp .lss 3 (.tmp 10) (.const (.int .i64 0)) 3, 4, none) := by kernel_rfl
theorem p13_3_2 : pj (regOf Try.f13 3) 2 = some (some 12, .move (.tmp 11), 4, none) := by kernel_rfl
theorem p13_3_3 : pj (regOf Try.f13 3) 3 = some (some 13, .move (.tmp 1), 3, some (2, false)) := by kernel_rfl
theorem g13_3_2 : dstOf (regOf Try.f13 3) 2 = some 12 := by kernel_rfl
theorem p13_3_4 : pj (regOf Try.f13 3) 4 = some (some 14, .binOp .gtr 3 (.tmp 13) (.const (.int .i64 1099511627776)) 3, 4, some (2, false)) := by kernel_rfl
theorem p13_3_5 : pj (regOf Try.f13 3) 5 = some (some 15, .pick (.tmp 12) (.const (.bool true)) (.tmp 14), 4, none) := by kernel_rfl
theorem p13_3_6 : pj (regOf Try.f13 3) 6 = some (some 9, .assign (.tmp 15), 4, none) := by kernel_rfl
theorem ns13_5 : Region.noSelect (regOf Try.f13 5) = true := by kernel_rfl
theorem p13_5_0 : pj (regOf Try.f13 5) 0 = some (some 16, .move (.tmp 0), 24, none) := by kernel_rfl
theorem p13_5_1 : pj (regOf Try.f13 5) 1 = some (some 17, .nilCheck (.tmp 16), 0, none) := by kernel_rfl
theorem p13_5_2 : pj (regOf Try.f13 5) 2 = some (some 18, .fieldAddr 29 (.tmp 17) 0, 0, none) := by kernel_rfl
theorem p13_5_3 : pj (regOf Try.f13 5) 3 = some (some 19, .fieldAddr 26 (.tmp 18) 0, 0, none) := by kernel_rfl
theorem p13_5_5 : pj (regOf Try.f13 5) 5 = some (some 21, .move (.tmp 1), 3, none) := by kernel_rfl
theorem p13_5_6 : pj (regOf Try.f13 5) 6 = some (some 22, .move (.tmp 0), 24, none) := by kernel_rfl
theorem p13_5_7 : pj (regOf Try.f13 5) 7 = some (some 23, .nilCheck (.tmp 22), 0, none) := by kernel_rfl
theorem p13_5_8 : pj (regOf Try.f13 5) 8 = some (some 24, .fieldAddr 29 (.tmp 23) 0, 0, none) := by kernel_rfl
theorem p13_5_9 : pj (regOf Try.f13 5) 9 = some (some 25, .fieldAddr 26 (.tmp 24) 0, 0, none) := by kernel_rfl
theorem p13_5_4 : pj (regOf Try.f13 5) 4 = some (some 20, .load 3 (.tmp 19), 3, none) := by kernel_rfl
theorem p13_5_10 : pj (regOf Try.f13 5) 10 = some (some 26, .load 3 (.tmp 25), 3, none) := by kernel_rfl
theorem p13_5_11 : pj (regOf Try.f13 5) 11 = some (some 27, .binOp .sub 3 (.const (.int .i64 2305843009213693952)) (.tmp 26) 3, 3, none) := by kernel_rfl
theorem p13_5_12 : pj (regOf Try.f13 5) 12 = some (some 28, .call { callee := .builtin .min, args := #[.tmp 21, .tmp 27], argTypes := #[3, 3] }, 3, none) := by kernel_rfl
theorem p13_5_13 : pj (regOf Try.f13 5) 13 = some (some 29, .binOp .add 3 (.tmp 20) (.tmp 28) 3, 3, none) := by kernel_rfl
theorem p13_5_14 : pj (regOf Try.f13 5) 14 = some (some 30, .nilCheck (.tmp 16), 0, none) := by kernel_rfl
theorem p13_5_15 : pj (regOf Try.f13 5) 15 = some (some 31, .fieldAddr 29 (.tmp 30) 0, 0, none) := by kernel_rfl
theorem p13_5_16 : pj (regOf Try.f13 5) 16 = some (some 32, .fieldAddr 26 (.tmp 31) 0, 0, none) := by kernel_rfl
theorem p13_5_17 : pj (regOf Try.f13 5) 17 = some (none, .store 3 (.tmp 32) (.tmp 29), 0, none) := by kernel_rfl
theorem p13_6_0 : pj (regOf Try.f13 6) 0 = some (some 33, .move (.tmp 0), 24, none) := by kernel_rfl
theorem p13_6_1 : pj (regOf Try.f13 6) 1 = some (some 34, .call { callee := .value (.func 34), args := #[.tmp 33], argTypes := #[24] }, 35, none) := by kernel_rfl
theorem p13_6_2 : pj (regOf Try.f13 6) 2 = some (some 4, .assign (.tmp 34), 35, none) := by kernel_rfl
theorem p13_6_3 : pj (regOf Try.f13 6) 3 = some (some 5, .assign (.const (.int .i64 0)), 30, none) := by kernel_rfl
set_option maxHeartbeats 4000000 in
theorem run_any (g gm ck : Nat) (es : Array MapEntry) (l : Wp.LW) (now : Int) (n mn : Int) (w : World) (hmn : (if 2305843009213693952 - now < n then 2305843009213693952 - now else n) = mn) (hn : 0 ≤ n ∧ n ≤ 1099511627776) (hnow : 0 ≤ now ∧ now ≤ 2305843009213693952) (hll : l.length ≤ 1000) (hg : w.heap[g]? = some (.cells #[.int .i64 now, .map (some gm)] 29 (0, 0))) (hm : w.heap[gm]? = some (.map es ck)) (hF : MapI (Value.int .i64) es ck l) (hne : g ≠ gm) : Calls Try.prog 13 #[.pointer (some ⟨g, 0, none⟩), .int .i64 n] w fun e w' => ∃ A c es' ck', e = .returned (.tuple #[.slice A (fireO (now + mn) l).length c, .int .i64 0]) ∧ w'.ownsRow w.heap.size 3 1 (.slice A (fireO (now + mn) l).length c) (fireO (now + mn) l).length (encs (Value.int .i64) (fireO (now + mn) l)) ∧ MapI (Value.int .i64) es' ck' (fireS (now + mn) l).2 ∧ w'.heap[gm]? = some (.map es' ck') ∧ w'.heap[g]? = some (.cells #[.int .i64 (now + mn), .map (some gm)] 29 (0, 0)) ∧ Kp w w' (fun k => k = g ∨ k = gm) := by
  have K_0 := Kp.refl w (fun k => k = g ∨ k = gm)
  have B_g := hg
  have B_gm := hm
  have n_g_gm := hne
  have hmb : 0 ≤ mn ∧ now + mn ≤ 2305843009213693952 := by rw [← hmn]; split <;> omega
  refine enter (args := [Value.pointer (some ⟨g, 0, none⟩), Value.int .i64 n]) (n := 35) Try.func13 body13 rfl rfl rfl ?_
  intro a hE
  refine c_reg R13_0_l ?_
  refine q0 p13_0_0 hE (st_assign rfl) ?_
  clear hE a; intro a hE
  refine q0 p13_0_1 hE (st_assign rfl) ?_
  clear hE a; intro a hE
  refine p_nil ?_
  refine x_norm ?_
  refine wp_seq ?_
  refine wp_block ?_
  refine c_reg R13_1_l ?_
  refine q0 p13_1_0 hE (st_move rfl) ?_
  clear hE a; intro a hE
  refine q0 p13_1_1 hE (st_eqlP (b := false) tP24 rfl rfl rfl) ?_
  clear hE a; intro a hE
  refine q0 p13_1_2 hE (st_assign rfl) ?_
  clear hE a; intro a hE
  refine p_nil ?_
  refine x_norm ?_
  refine c_cond (t := false) hE rfl ?_
  refine c_reg R13_3_l ?_
  refine q0 p13_3_0 hE (st_move rfl) ?_
  clear hE a; intro a hE
  refine q0 p13_3_1 hE (st_lss (b := false) rfl rfl (decide_eq_false (by omega))) ?_
  clear hE a; intro a hE
  refine q0 p13_3_2 hE (st_move rfl) ?_
  clear hE a; intro a hE
  refine p_cons (s_still p13_3_3 hE (wn_some g13_3_2 rfl rfl) rfl (st_move rfl) ?_)
  clear hE a; intro a hE
  refine p_cons (s_still p13_3_4 hE (wn_some g13_3_2 rfl rfl) rfl (st_gtr (b := false) rfl rfl (decide_eq_false (by omega))) ?_)
  clear hE a; intro a hE
  refine q0 p13_3_5 hE (st_pick rfl rfl) ?_
  clear hE a; intro a hE
  refine q0 p13_3_6 hE (st_assign rfl) ?_
  clear hE a; intro a hE
  refine p_nil ?_
  refine x_norm ?_
  refine c_cond (t := false) hE rfl ?_
  refine wp_skip ?_
  refine x_normB ?_
  refine x_norm ?_
  refine c_drawMS (S := fun W => True) rfl rfl (listed := #[false, false, false, false, false, false, false, false, false, false, false, false, false, false, false, false, false, false]) rfl pan_body (fun QQ hQ hend => ?_)
  have dr5_4 : ∀ (W : World) (a : Act), En 35 a [(0, Value.pointer (some ⟨g, 0, none⟩)), (1, Value.int .i64 n), (4, Value.slice none 0 0), (5, Value.int .i64 0), (6, Value.bool false), (9, Value.bool false), (16, Value.pointer (some ⟨g, 0, none⟩)), (17, Value.pointer (some ⟨g, 0, none⟩)), (18, Value.pointer (some ⟨g, 0, none⟩)), (19, Value.pointer (some ⟨g, 0, none⟩)), (20, Value.int .i64 now), (21, Value.int .i64 n), (22, Value.pointer (some ⟨g, 0, none⟩)), (23, Value.pointer (some ⟨g, 0, none⟩)), (24, Value.pointer (some ⟨g, 0, none⟩)), (25, Value.pointer (some ⟨g, 0, none⟩)), (26, Value.int .i64 now), (27, Value.int .i64 (2305843009213693952 - now)), (28, Value.int .i64 mn), (29, Value.int .i64 (now + mn)), (30, Value.pointer (some ⟨g, 0, none⟩)), (31, Value.pointer (some ⟨g, 0, none⟩)), (32, Value.pointer (some ⟨g, 0, none⟩))] → W.heap[g]? = some (.cells #[Value.int .i64 (now + mn), Value.map (some gm)] 29 (0, 0)) → W.heap[gm]? = some (.map es ck) → Kp w W (fun k => k = g ∨ k = gm) → wpAnyH Try.prog .any (regOf Try.f13 5) QQ (fun W => True) 0 #[true, true, true, true, true, true, true, true, true, true, true, true, true, true, true, true, true, true] a W := by
    intro w3 a hE B_g B_gm K_0
    refine d_end (by kernel_rfl) (hend _ _ ?_)
    refine c_reg R13_6_l ?_
    refine q0 p13_6_0 hE (st_move rfl) ?_
    clear hE a; intro a hE
    have hnb_g := blk_lt B_g
    have hnb_gm := blk_lt B_gm
    have hnz_0 := K_0.kept.1
    refine p_cons (s_call (xs := [Operand.tmp 33]) (args := [Value.pointer (some ⟨g, 0, none⟩)]) p13_6_1 hE wn_none rfl rfl Try.func34 cl34 (fire_any g gm ck es l (now + mn) _ hll B_g B_gm hF n_g_gm) ?_)
    rintro e w10 ⟨A4, c5, es6, ck7, rfl, O_q8, MF9, B_gm', hk⟩
    replace B_g := kp_blk B_g hk n_g_gm
    replace K_0 := K_0.then_ hk (fun k h => by rw [show k = gm from h]; exact Or.inl (Or.inr rfl))
    replace B_gm := B_gm'
    have Nb_q8_g : ¬ OB A4 g := fun h => by have := (own_ob O_q8 h).1; have := hnb_g; omega
    have Nb_q8_gm : ¬ OB A4 gm := fun h => by have := (own_ob O_q8 h).1; have := hnb_gm; omega
    have Z_0_q8 : ∀ k, OB A4 k → (fun k => k = g ∨ k = gm) k ∨ w.heap.size ≤ k := fun k h => .inr (by have := (own_ob O_q8 h).1; have := hnz_0; omega)
    replace O_q8 := own_lower O_q8 hnz_0
    refine ⟨_, rfl, ?_⟩
    clear hE a; intro a hE
    refine q0 p13_6_2 hE (st_assign rfl) ?_
    clear hE a; intro a hE
    refine q0 p13_6_3 hE (st_assign rfl) ?_
    clear hE a; intro a hE
    refine p_nil ?_
    refine x_norm ?_
    refine wp_ret ?_
    refine ret_list (rs := [.tmp 4, .tmp 5]) (vs := [Value.slice A4 ((fireO (now + mn) l).length) c5, Value.int .i64 0]) rfl hE (.tmp rfl (.tmp rfl .nil)) rfl ?_
    exact ⟨A4, c5, es6, ck7, rfl, O_q8, MF9, B_gm, B_g, K_0⟩
  have dr5_3 : ∀ (W : World) (a : Act), En 35 a [(0, Value.pointer (some ⟨g, 0, none⟩)), (1, Value.int .i64 n), (4, Value.slice none 0 0), (5, Value.int .i64 0), (6, Value.bool false), (9, Value.bool false), (16, Value.pointer (some ⟨g, 0, none⟩)), (17, Value.pointer (some ⟨g, 0, none⟩)), (18, Value.pointer (some ⟨g, 0, none⟩)), (19, Value.pointer (some ⟨g, 0, none⟩)), (20, Value.int .i64 now), (21, Value.int .i64 n), (22, Value.pointer (some ⟨g, 0, none⟩)), (23, Value.pointer (some ⟨g, 0, none⟩)), (24, Value.pointer (some ⟨g, 0, none⟩)), (25, Value.pointer (some ⟨g, 0, none⟩)), (26, Value.int .i64 now), (27, Value.int .i64 (2305843009213693952 - now)), (28, Value.int .i64 mn), (29, Value.int .i64 (now + mn)), (30, Value.pointer (some ⟨g, 0, none⟩)), (31, Value.pointer (some ⟨g, 0, none⟩)), (32, Value.pointer (some ⟨g, 0, none⟩))] → W.heap[g]? = some (.cells #[Value.int .i64 now, Value.map (some gm)] 29 (0, 0)) → W.heap[gm]? = some (.map es ck) → Kp w W (fun k => k = g ∨ k = gm) → wpAnyH Try.prog .any (regOf Try.f13 5) QQ (fun W => True) 1 #[true, true, true, true, true, true, true, true, true, true, true, true, true, true, true, true, true, false] a W := by
    intro w11 a hE B_g B_gm K_0
    refine d_all (rs := [17]) (by kernel_rfl) rfl ?_
    refine all_cons (d_lit (listed' := #[true, true, true, true, true, true, true, true, true, true, true, true, true, true, true, true, true, true]) rfl ?_) ?_
    ·
      refine (s_store (off := 0) (k := 1) (cs' := #[Value.int .i64 (now + mn), Value.map (some gm)]) p13_5_17 hE wn_none tS3 rfl rfl rfl rfl B_g (Nat.le_of_ble_eq_true rfl) rfl ?_)
      intro w12 B_g' hk
      replace B_gm := kp_blk B_gm hk (Ne.symm n_g_gm)
      replace K_0 := K_0.then_ hk (fun k h => by rw [show k = g from h]; exact Or.inl (Or.inl rfl))
      replace B_g := B_g'
      clear hk
      refine ⟨trivial, ?_⟩
      exact dr5_4 _ a (En.sub hE ⟨rfl, rfl, rfl, rfl, rfl, rfl, rfl, rfl, rfl, rfl, rfl, rfl, rfl, rfl, rfl, rfl, rfl, rfl, rfl, rfl, rfl, rfl, rfl, trivial⟩) B_g B_gm K_0
    exact all_nil
  have dr5_2 : ∀ (W : World) (a : Act), En 35 a [(0, Value.pointer (some ⟨g, 0, none⟩)), (1, Value.int .i64 n), (4, Value.slice none 0 0), (5, Value.int .i64 0), (6, Value.bool false), (9, Value.bool false), (16, Value.pointer (some ⟨g, 0, none⟩)), (17, Value.pointer (some ⟨g, 0, none⟩)), (18, Value.pointer (some ⟨g, 0, none⟩)), (19, Value.pointer (some ⟨g, 0, none⟩)), (21, Value.int .i64 n), (22, Value.pointer (some ⟨g, 0, none⟩)), (23, Value.pointer (some ⟨g, 0, none⟩)), (24, Value.pointer (some ⟨g, 0, none⟩)), (25, Value.pointer (some ⟨g, 0, none⟩)), (26, Value.int .i64 now), (27, Value.int .i64 (2305843009213693952 - now)), (28, Value.int .i64 mn)] → W.heap[g]? = some (.cells #[Value.int .i64 now, Value.map (some gm)] 29 (0, 0)) → W.heap[gm]? = some (.map es ck) → Kp w W (fun k => k = g ∨ k = gm) → wpAnyH Try.prog .any (regOf Try.f13 5) QQ (fun W => True) 6 #[true, true, true, true, false, true, true, true, true, true, true, true, true, false, false, false, false, false] a W := by
    intro w13 a hE B_g B_gm K_0
    refine d_all (rs := [4]) (by kernel_rfl) rfl ?_
    refine all_cons (d_lit (listed' := #[true, true, true, true, true, true, true, true, true, true, true, true, true, false, false, false, false, false]) rfl ?_) ?_
    ·
      refine (s_still p13_5_4 hE wn_none rfl (st_load1 tA3 rfl ((blk_cell B_g 0).trans rfl)) ?_)
      clear hE a; intro a hE
      refine ⟨trivial, ?_⟩
      refine d_take (v := Value.int .i64 (now + mn)) p13_5_13 ns13_5 (by kernel_rfl) (by kernel_rfl) (fun c a w h => hQ c a _ _ w h) hE wn_none rfl trivial (fun W hS => (st_add (z := now + mn) rfl rfl (wr_i64 _ (by omega) (by omega)))) (listed' := #[true, true, true, true, true, true, true, true, true, true, true, true, true, true, false, false, false, false]) rfl ?_
      clear hE a; intro a hE
      refine d_take (v := Value.pointer (some ⟨g, 0, none⟩)) p13_5_14 ns13_5 (by kernel_rfl) (by kernel_rfl) (fun c a w h => hQ c a _ _ w h) hE wn_none rfl trivial (fun W hS => (st_nil rfl)) (listed' := #[true, true, true, true, true, true, true, true, true, true, true, true, true, true, true, false, false, false]) rfl ?_
      clear hE a; intro a hE
      refine d_take (v := Value.pointer (some ⟨g, 0, none⟩)) p13_5_15 ns13_5 (by kernel_rfl) (by kernel_rfl) (fun c a w h => hQ c a _ _ w h) hE wn_none rfl trivial (fun W hS => (st_fieldAddr Try.underlying29 rfl tS26 rfl rfl)) (listed' := #[true, true, true, true, true, true, true, true, true, true, true, true, true, true, true, true, false, false]) rfl ?_
      clear hE a; intro a hE
      refine d_take (v := Value.pointer (some ⟨g, 0, none⟩)) p13_5_16 ns13_5 (by kernel_rfl) (by kernel_rfl) (fun c a w h => hQ c a _ _ w h) hE wn_none rfl trivial (fun W hS => (st_fieldAddr Try.underlying26 rfl tS3 rfl rfl)) (listed' := #[true, true, true, true, true, true, true, true, true, true, true, true, true, true, true, true, true, false]) rfl ?_
      clear hE a; intro a hE
      exact dr5_3 _ a (En.sub hE ⟨rfl, rfl, rfl, rfl, rfl, rfl, rfl, rfl, rfl, rfl, rfl, rfl, rfl, rfl, rfl, rfl, rfl, rfl, rfl, rfl, rfl, rfl, rfl, trivial⟩) B_g B_gm K_0
    exact all_nil
  have dr5_1 : ∀ (W : World) (a : Act), En 35 a [(0, Value.pointer (some ⟨g, 0, none⟩)), (1, Value.int .i64 n), (4, Value.slice none 0 0), (5, Value.int .i64 0), (6, Value.bool false), (9, Value.bool false), (16, Value.pointer (some ⟨g, 0, none⟩)), (17, Value.pointer (some ⟨g, 0, none⟩)), (18, Value.pointer (some ⟨g, 0, none⟩)), (19, Value.pointer (some ⟨g, 0, none⟩)), (20, Value.int .i64 now), (21, Value.int .i64 n), (22, Value.pointer (some ⟨g, 0, none⟩)), (23, Value.pointer (some ⟨g, 0, none⟩)), (24, Value.pointer (some ⟨g, 0, none⟩)), (25, Value.pointer (some ⟨g, 0, none⟩))] → W.heap[g]? = some (.cells #[Value.int .i64 now, Value.map (some gm)] 29 (0, 0)) → W.heap[gm]? = some (.map es ck) → Kp w W (fun k => k = g ∨ k = gm) → wpAnyH Try.prog .any (regOf Try.f13 5) QQ (fun W => True) 8 #[true, true, true, true, true, true, true, true, true, true, false, false, false, false, false, false, false, false] a W := by
    intro w14 a hE B_g B_gm K_0
    refine d_all (rs := [10]) (by kernel_rfl) rfl ?_
    refine all_cons (d_lit (listed' := #[true, true, true, true, true, true, true, true, true, true, true, false, false, false, false, false, false, false]) rfl ?_) ?_
    ·
      refine (s_still p13_5_10 hE wn_none rfl (st_load1 tA3 rfl ((blk_cell B_g 0).trans rfl)) ?_)
      clear hE a; intro a hE
      refine ⟨trivial, ?_⟩
      refine d_take (v := Value.int .i64 (2305843009213693952 - now)) p13_5_11 ns13_5 (by kernel_rfl) (by kernel_rfl) (fun c a w h => hQ c a _ _ w h) hE wn_none rfl trivial (fun W hS => (st_sub (z := 2305843009213693952 - now) rfl rfl (wr_i64 _ (by omega) (by omega)))) (listed' := #[true, true, true, true, true, true, true, true, true, true, true, true, false, false, false, false, false, false]) rfl ?_
      clear hE a; intro a hE
      refine d_take (v := Value.int .i64 mn) p13_5_12 ns13_5 (by kernel_rfl) (by kernel_rfl) (fun c a w h => hQ c a _ _ w h) hE wn_none rfl trivial (fun W hS => (st_min (z := mn) rfl rfl hmn)) (listed' := #[true, true, true, true, true, true, true, true, true, true, true, true, true, false, false, false, false, false]) rfl ?_
      clear hE a; intro a hE
      refine d_take (v := Value.int .i64 (now + mn)) p13_5_13 ns13_5 (by kernel_rfl) (by kernel_rfl) (fun c a w h => hQ c a _ _ w h) hE wn_none rfl trivial (fun W hS => (st_add (z := now + mn) rfl rfl (wr_i64 _ (by omega) (by omega)))) (listed' := #[true, true, true, true, true, true, true, true, true, true, true, true, true, true, false, false, false, false]) rfl ?_
      clear hE a; intro a hE
      refine d_take (v := Value.pointer (some ⟨g, 0, none⟩)) p13_5_14 ns13_5 (by kernel_rfl) (by kernel_rfl) (fun c a w h => hQ c a _ _ w h) hE wn_none rfl trivial (fun W hS => (st_nil rfl)) (listed' := #[true, true, true, true, true, true, true, true, true, true, true, true, true, true, true, false, false, false]) rfl ?_
      clear hE a; intro a hE
      refine d_take (v := Value.pointer (some ⟨g, 0, none⟩)) p13_5_15 ns13_5 (by kernel_rfl) (by kernel_rfl) (fun c a w h => hQ c a _ _ w h) hE wn_none rfl trivial (fun W hS => (st_fieldAddr Try.underlying29 rfl tS26 rfl rfl)) (listed' := #[true, true, true, true, true, true, true, true, true, true, true, true, true, true, true, true, false, false]) rfl ?_
      clear hE a; intro a hE
      refine d_take (v := Value.pointer (some ⟨g, 0, none⟩)) p13_5_16 ns13_5 (by kernel_rfl) (by kernel_rfl) (fun c a w h => hQ c a _ _ w h) hE wn_none rfl trivial (fun W hS => (st_fieldAddr Try.underlying26 rfl tS3 rfl rfl)) (listed' := #[true, true, true, true, true, true, true, true, true, true, true, true, true, true, true, true, true, false]) rfl ?_
      clear hE a; intro a hE
      exact dr5_3 _ a (En.sub hE ⟨rfl, rfl, rfl, rfl, rfl, rfl, rfl, rfl, rfl, rfl, rfl, rfl, rfl, rfl, rfl, rfl, rfl, rfl, rfl, rfl, rfl, rfl, rfl, trivial⟩) B_g B_gm K_0
    exact all_nil
  have dr5_0 : ∀ (W : World) (a : Act), En 35 a [(0, Value.pointer (some ⟨g, 0, none⟩)), (1, Value.int .i64 n), (4, Value.slice none 0 0), (5, Value.int .i64 0), (6, Value.bool false), (9, Value.bool false), (16, Value.pointer (some ⟨g, 0, none⟩)), (17, Value.pointer (some ⟨g, 0, none⟩)), (18, Value.pointer (some ⟨g, 0, none⟩)), (19, Value.pointer (some ⟨g, 0, none⟩)), (21, Value.int .i64 n), (22, Value.pointer (some ⟨g, 0, none⟩)), (23, Value.pointer (some ⟨g, 0, none⟩)), (24, Value.pointer (some ⟨g, 0, none⟩)), (25, Value.pointer (some ⟨g, 0, none⟩))] → W.heap[g]? = some (.cells #[Value.int .i64 now, Value.map (some gm)] 29 (0, 0)) → W.heap[gm]? = some (.map es ck) → Kp w W (fun k => k = g ∨ k = gm) → wpAnyH Try.prog .any (regOf Try.f13 5) QQ (fun W => True) 9 #[true, true, true, true, false, true, true, true, true, true, false, false, false, false, false, false, false, false] a W := by
    intro w15 a hE B_g B_gm K_0
    refine d_all (rs := [4, 10]) (by kernel_rfl) rfl ?_
    refine all_cons (d_lit (listed' := #[true, true, true, true, true, true, true, true, true, true, false, false, false, false, false, false, false, false]) rfl ?_) ?_
    ·
      refine (s_still p13_5_4 hE wn_none rfl (st_load1 tA3 rfl ((blk_cell B_g 0).trans rfl)) ?_)
      clear hE a; intro a hE
      refine ⟨trivial, ?_⟩
      exact dr5_1 _ a (En.sub hE ⟨rfl, rfl, rfl, rfl, rfl, rfl, rfl, rfl, rfl, rfl, rfl, rfl, rfl, rfl, rfl, rfl, trivial⟩) B_g B_gm K_0
    refine all_cons (d_lit (listed' := #[true, true, true, true, false, true, true, true, true, true, true, false, false, false, false, false, false, false]) rfl ?_) ?_
    ·
      refine (s_still p13_5_10 hE wn_none rfl (st_load1 tA3 rfl ((blk_cell B_g 0).trans rfl)) ?_)
      clear hE a; intro a hE
      refine ⟨trivial, ?_⟩
      refine d_take (v := Value.int .i64 (2305843009213693952 - now)) p13_5_11 ns13_5 (by kernel_rfl) (by kernel_rfl) (fun c a w h => hQ c a _ _ w h) hE wn_none rfl trivial (fun W hS => (st_sub (z := 2305843009213693952 - now) rfl rfl (wr_i64 _ (by omega) (by omega)))) (listed' := #[true, true, true, true, false, true, true, true, true, true, true, true, false, false, false, false, false, false]) rfl ?_
      clear hE a; intro a hE
      refine d_take (v := Value.int .i64 mn) p13_5_12 ns13_5 (by kernel_rfl) (by kernel_rfl) (fun c a w h => hQ c a _ _ w h) hE wn_none rfl trivial (fun W hS => (st_min (z := mn) rfl rfl hmn)) (listed' := #[true, true, true, true, false, true, true, true, true, true, true, true, true, false, false, false, false, false]) rfl ?_
      clear hE a; intro a hE
      exact dr5_2 _ a (En.sub hE ⟨rfl, rfl, rfl, rfl, rfl, rfl, rfl, rfl, rfl, rfl, rfl, rfl, rfl, rfl, rfl, rfl, rfl, rfl, trivial⟩) B_g B_gm K_0
    exact all_nil
  intro w1 hh hk
  replace B_g := kp_blk B_g hk (fun h => h)
  replace B_gm := kp_blk B_gm hk (fun h => h)
  replace K_0 := K_0.then_ hk (fun _ h => h.elim)
  clear hh hk
  refine d_take (v := Value.pointer (some ⟨g, 0, none⟩)) p13_5_0 ns13_5 (by kernel_rfl) (by kernel_rfl) (fun c a w h => hQ c a _ _ w h) hE wn_none rfl trivial (fun W hS => (st_move rfl)) (listed' := #[true, false, false, false, false, false, false, false, false, false, false, false, false, false, false, false, false, false]) rfl ?_
  clear hE a; intro a hE
  refine d_take (v := Value.pointer (some ⟨g, 0, none⟩)) p13_5_1 ns13_5 (by kernel_rfl) (by kernel_rfl) (fun c a w h => hQ c a _ _ w h) hE wn_none rfl trivial (fun W hS => (st_nil rfl)) (listed' := #[true, true, false, false, false, false, false, false, false, false, false, false, false, false, false, false, false, false]) rfl ?_
  clear hE a; intro a hE
  refine d_take (v := Value.pointer (some ⟨g, 0, none⟩)) p13_5_2 ns13_5 (by kernel_rfl) (by kernel_rfl) (fun c a w h => hQ c a _ _ w h) hE wn_none rfl trivial (fun W hS => (st_fieldAddr Try.underlying29 rfl tS26 rfl rfl)) (listed' := #[true, true, true, false, false, false, false, false, false, false, false, false, false, false, false, false, false, false]) rfl ?_
  clear hE a; intro a hE
  refine d_take (v := Value.pointer (some ⟨g, 0, none⟩)) p13_5_3 ns13_5 (by kernel_rfl) (by kernel_rfl) (fun c a w h => hQ c a _ _ w h) hE wn_none rfl trivial (fun W hS => (st_fieldAddr Try.underlying26 rfl tS3 rfl rfl)) (listed' := #[true, true, true, true, false, false, false, false, false, false, false, false, false, false, false, false, false, false]) rfl ?_
  clear hE a; intro a hE
  refine d_take (v := Value.int .i64 n) p13_5_5 ns13_5 (by kernel_rfl) (by kernel_rfl) (fun c a w h => hQ c a _ _ w h) hE wn_none rfl trivial (fun W hS => (st_move rfl)) (listed' := #[true, true, true, true, false, true, false, false, false, false, false, false, false, false, false, false, false, false]) rfl ?_
  clear hE a; intro a hE
  refine d_take (v := Value.pointer (some ⟨g, 0, none⟩)) p13_5_6 ns13_5 (by kernel_rfl) (by kernel_rfl) (fun c a w h => hQ c a _ _ w h) hE wn_none rfl trivial (fun W hS => (st_move rfl)) (listed' := #[true, true, true, true, false, true, true, false, false, false, false, false, false, false, false, false, false, false]) rfl ?_
  clear hE a; intro a hE
  refine d_take (v := Value.pointer (some ⟨g, 0, none⟩)) p13_5_7 ns13_5 (by kernel_rfl) (by kernel_rfl) (fun c a w h => hQ c a _ _ w h) hE wn_none rfl trivial (fun W hS => (st_nil rfl)) (listed' := #[true, true, true, true, false, true, true, true, false, false, false, false, false, false, false, false, false, false]) rfl ?_
  clear hE a; intro a hE
  refine d_take (v := Value.pointer (some ⟨g, 0, none⟩)) p13_5_8 ns13_5 (by kernel_rfl) (by kernel_rfl) (fun c a w h => hQ c a _ _ w h) hE wn_none rfl trivial (fun W hS => (st_fieldAddr Try.underlying29 rfl tS26 rfl rfl)) (listed' := #[true, true, true, true, false, true, true, true, true, false, false, false, false, false, false, false, false, false]) rfl ?_
  clear hE a; intro a hE
  refine d_take (v := Value.pointer (some ⟨g, 0, none⟩)) p13_5_9 ns13_5 (by kernel_rfl) (by kernel_rfl) (fun c a w h => hQ c a _ _ w h) hE wn_none rfl trivial (fun W hS => (st_fieldAddr Try.underlying26 rfl tS3 rfl rfl)) (listed' := #[true, true, true, true, false, true, true, true, true, true, false, false, false, false, false, false, false, false]) rfl ?_
  clear hE a; intro a hE
  exact dr5_0 _ a (En.sub hE ⟨rfl, rfl, rfl, rfl, rfl, rfl, rfl, rfl, rfl, rfl, rfl, rfl, rfl, rfl, rfl, trivial⟩) B_g B_gm K_0
theorem R17_0_l : List.range (regOf Try.f17 0).size = [0] := by kernel_rfl
theorem R17_1_l : List.range (regOf Try.f17 1).size = [0, 1] := by kernel_rfl
theorem R17_2_l : List.range (regOf Try.f17 2).size = [0] := by kernel_rfl
theorem R17_3_l : List.range (regOf Try.f17 3).size = [0, 1, 2, 3, 4, 5] := by kernel_rfl
theorem body17 : Try.f17.body = some (.seq (.region 0 (regOf Try.f17 0) false) (.seq (.seq (.region 1 (regOf Try.f17 1) false) (.cond (Operand.tmp 4) (.seq (.region 2 (regOf Try.f17 2) false) (.ret)) (.skip))) (.seq (.region 3 (regOf Try.f17 3) false) (.ret)))) := by kernel_rfl
theorem p17_0_0 : pj (regOf Try.f17 0) 0 = some (some 2, .assign (.const (.int .i64 0)), 3, none) := by kernel_rfl
theorem p17_1_0 : pj (regOf Try.f17 1) 0 = some (some 3, .move (.tmp 0), 24, none) := by kernel_rfl
theorem p17_1_1 : pj (regOf Try.f17 1) 1 = some (some 4, .binOp .eql 24 (.tmp 3) (.const (.pointer none)) 24, 4, none) := by kernel_rfl
theorem p17_3_0 : pj (regOf Try.f17 3) 0 = some (some 5, .move (.tmp 0), 24, none) := by kernel_rfl
theorem p17_3_1 : pj (regOf Try.f17 3) 1 = some (some 6, .nilCheck (.tmp 5), 0, none) := by kernel_rfl
theorem p17_3_2 : pj (regOf Try.f17 3) 2 = some (some 7, .fieldAddr 29 (.tmp 6) 0, 0, none) := by kernel_rfl
theorem p17_3_3 : pj (regOf Try.f17 3) 3 = some (some 8, .fieldAddr 26 (.tmp 7) 0, 0, none) := by kernel_rfl
theorem p17_3_4 : pj (regOf Try.f17 3) 4 = some (some 9, .load 3 (.tmp 8), 3, none) := by kernel_rfl
theorem p17_3_5 : pj (regOf Try.f17 3) 5 = some (some 2, .assign (.tmp 9), 3, none) := by kernel_rfl
set_option maxHeartbeats 4000000 in
theorem now_any (g : Nat) (now : Int) (V : Value) (w : World) (hg : w.heap[g]? = some (.cells #[.int .i64 now, V] 29 (0, 0))) : Calls Try.prog 17 #[.pointer (some ⟨g, 0, none⟩)] w fun e w' => e = .returned (.int .i64 now) ∧ Kp w w' (fun _ => False) := by
  have K_0 := Kp.refl w (fun _ => False)
  have B_g := hg
  refine enter (args := [Value.pointer (some ⟨g, 0, none⟩)]) (n := 10) Try.func17 body17 rfl rfl rfl ?_
  intro a hE
  refine c_reg R17_0_l ?_
  refine q0 p17_0_0 hE (st_assign rfl) ?_
  clear hE a; intro a hE
  refine p_nil ?_
  refine x_norm ?_
  refine wp_seq ?_
  refine c_reg R17_1_l ?_
  refine q0 p17_1_0 hE (st_move rfl) ?_
  clear hE a; intro a hE
  refine q0 p17_1_1 hE (st_eqlP (b := false) tP24 rfl rfl rfl) ?_
  clear hE a; intro a hE
  refine p_nil ?_
  refine x_norm ?_
  refine c_cond (t := false) hE rfl ?_
  refine wp_skip ?_
  refine x_norm ?_
  refine c_reg R17_3_l ?_
  refine q0 p17_3_0 hE (st_move rfl) ?_
  clear hE a; intro a hE
  refine q0 p17_3_1 hE (st_nil rfl) ?_
  clear hE a; intro a hE
  refine q0 p17_3_2 hE (st_fieldAddr Try.underlying29 rfl tS26 rfl rfl) ?_
  clear hE a; intro a hE
  refine q0 p17_3_3 hE (st_fieldAddr Try.underlying26 rfl tS3 rfl rfl) ?_
  clear hE a; intro a hE
  refine q0 p17_3_4 hE (st_load1 tA3 rfl ((blk_cell B_g 0).trans rfl)) ?_
  clear hE a; intro a hE
  refine q0 p17_3_5 hE (st_assign rfl) ?_
  clear hE a; intro a hE
  refine p_nil ?_
  refine x_norm ?_
  refine wp_ret ?_
  refine ret_one (v := Value.int .i64 now) rfl hE (.tmp rfl .nil) ?_
  exact ⟨rfl, K_0⟩
theorem R16_0_l : List.range (regOf Try.f16 0).size = [0] := by kernel_rfl
theorem R16_1_l : List.range (regOf Try.f16 1).size = [0, 1] := by kernel_rfl
theorem R16_2_l : List.range (regOf Try.f16 2).size = [0] := by kernel_rfl
theorem R16_3_l : List.range (regOf Try.f16 3).size = [0, 1, 2, 3, 4, 5] := by kernel_rfl
theorem body16 : Try.f16.body = some (.seq (.region 0 (regOf Try.f16 0) false) (.seq (.seq (.region 1 (regOf Try.f16 1) false) (.cond (Operand.tmp 4) (.seq (.region 2 (regOf Try.f16 2) false) (.ret)) (.skip))) (.seq (.region 3 (regOf Try.f16 3) false) (.ret)))) := by kernel_rfl
theorem p16_0_0 : pj (regOf Try.f16 0) 0 = some (some 2, .assign (.const (.int .i64 0)), 3, none) := by kernel_rfl
theorem p16_1_0 : pj (regOf Try.f16 1) 0 = some (some 3, .move (.tmp 0), 24, none) := by kernel_rfl
theorem p16_1_1 : pj (regOf Try.f16 1) 1 = some (some 4, .binOp .eql 24 (.tmp 3) (.const (.pointer none)) 24, 4, none) := by kernel_rfl
theorem p16_3_0 : pj (regOf Try.f16 3) 0 = some (some 5, .move (.tmp 0), 24, none) := by kernel_rfl
theorem p16_3_1 : pj (regOf Try.f16 3) 1 = some (some 6, .nilCheck (.tmp 5), 0, none) := by kernel_rfl
theorem p16_3_2 : pj (regOf Try.f16 3) 2 = some (some 7, .fieldAddr 29 (.tmp 6) 1, 0, none) := by kernel_rfl
theorem p16_3_3 : pj (regOf Try.f16 3) 3 = some (some 8, .load 27 (.tmp 7), 27, none) := by kernel_rfl
theorem p16_3_4 : pj (regOf Try.f16 3) 4 = some (some 9, .call { callee := .builtin .len, args := #[.tmp 8], argTypes := #[27] }, 3, none) := by kernel_rfl
theorem p16_3_5 : pj (regOf Try.f16 3) 5 = some (some 2, .assign (.tmp 9), 3, none) := by kernel_rfl
set_option maxHeartbeats 4000000 in
theorem len_any (g gm ck : Nat) (es : Array MapEntry) (l : Wp.LW) (now : Int) (w : World) (hg : w.heap[g]? = some (.cells #[.int .i64 now, .map (some gm)] 29 (0, 0))) (hm : w.heap[gm]? = some (.map es ck)) (hF : MapI (Value.int .i64) es ck l) (hne : g ≠ gm) : Calls Try.prog 16 #[.pointer (some ⟨g, 0, none⟩)] w fun e w' => e = .returned (.int .i64 l.length) ∧ Kp w w' (fun _ => False) := by
  have K_0 := Kp.refl w (fun _ => False)
  have B_g := hg
  have B_gm := hm
  have n_g_gm := hne
  refine enter (args := [Value.pointer (some ⟨g, 0, none⟩)]) (n := 10) Try.func16 body16 rfl rfl rfl ?_
  intro a hE
  refine c_reg R16_0_l ?_
  refine q0 p16_0_0 hE (st_assign rfl) ?_
  clear hE a; intro a hE
  refine p_nil ?_
  refine x_norm ?_
  refine wp_seq ?_
  refine c_reg R16_1_l ?_
  refine q0 p16_1_0 hE (st_move rfl) ?_
  clear hE a; intro a hE
  refine q0 p16_1_1 hE (st_eqlP (b := false) tP24 rfl rfl rfl) ?_
  clear hE a; intro a hE
  refine p_nil ?_
  refine x_norm ?_
  refine c_cond (t := false) hE rfl ?_
  refine wp_skip ?_
  refine x_norm ?_
  refine c_reg R16_3_l ?_
  refine q0 p16_3_0 hE (st_move rfl) ?_
  clear hE a; intro a hE
  refine q0 p16_3_1 hE (st_nil rfl) ?_
  clear hE a; intro a hE
  refine q0 p16_3_2 hE (st_fieldAddr Try.underlying29 rfl tS27 rfl rfl) ?_
  clear hE a; intro a hE
  refine q0 p16_3_3 hE (st_load1 tA27 rfl ((blk_cell B_g 1).trans rfl)) ?_
  clear hE a; intro a hE
  refine q0 p16_3_4 hE (Mi.st_lenM Try.underlying27 rfl hF B_gm) ?_
  clear hE a; intro a hE
  refine q0 p16_3_5 hE (st_assign rfl) ?_
  clear hE a; intro a hE
  refine p_nil ?_
  refine x_norm ?_
  refine wp_ret ?_
  refine ret_one (v := Value.int .i64 (l.length : Int)) rfl hE (.tmp rfl .nil) ?_
  exact ⟨rfl, K_0⟩
def nextP (l : LW) : Int × Int := match firstI l with | none => (0, 8) | some p => (p.2, 0)
theorem R14_0_l : List.range (regOf Try.f14 0).size = [0, 1] := by kernel_rfl
theorem R14_1_l : List.range (regOf Try.f14 1).size = [0, 1] := by kernel_rfl
theorem R14_2_l : List.range (regOf Try.f14 2).size = [0, 1] := by kernel_rfl
theorem R14_3_l : List.range (regOf Try.f14 3).size = [0, 1, 2, 3, 4, 5, 6] := by kernel_rfl
theorem R14_4_l : List.range (regOf Try.f14 4).size = [0, 1] := by kernel_rfl
theorem R14_5_l : List.range (regOf Try.f14 5).size = [0, 1] := by kernel_rfl
theorem R14_6_l : List.range (regOf Try.f14 6).size = [0, 1, 2, 3, 4, 5, 6, 7] := by kernel_rfl
theorem body14 : Try.f14.body = some (.seq (.region 0 (regOf Try.f14 0) false) (.seq (.seq (.region 1 (regOf Try.f14 1) false) (.cond (Operand.tmp 7) (.seq (.region 2 (regOf Try.f14 2) false) (.ret)) (.skip))) (.seq (.region 3 (regOf Try.f14 3) false) (.seq (.seq (.region 4 (regOf Try.f14 4) false) (.cond (Operand.tmp 14) (.seq (.region 5 (regOf Try.f14 5) false) (.ret)) (.skip))) (.seq (.region 6 (regOf Try.f14 6) false) (.ret)))))) := by kernel_rfl
theorem p14_0_0 : pj (regOf Try.f14 0) 0 = some (some 2, .assign (.const (.int .i64 0)), 3, none) := by kernel_rfl
theorem p14_0_1 : pj (regOf Try.f14 0) 1 = some (some 3, .assign (.const (.int .i64 0)), 30, none) := by kernel_rfl
theorem p14_1_0 : pj (regOf Try.f14 1) 0 = some (some 6, .move (.tmp 0), 24, none) := by kernel_rfl
theorem p14_1_1 : pj (regOf Try.f14 1) 1 = some (some 7, .binOp .eql 24 (.tmp 6) (.const (.pointer none)) 24, 4, none) := by kernel_rfl
theorem p14_3_0 : pj (regOf Try.f14 3) 0 = some (some 9, .move (.tmp 0), 24, none) := by kernel_rfl
theorem p14_3_1 : pj (regOf Try.f14 3) 1 = some (some 10, .call { callee := .value (.func 36), args := #[.tmp 9], argTypes := #[24] }, 74, none) := by kernel_rfl
theorem p14_3_2 : pj (regOf Try.f14 3) 2 = some (some 8, .move (.tmp 10), 74, none) := by kernel_rfl
theorem p14_3_3 : pj (regOf Try.f14 3) 3 = some (some 11, .extract (.tmp 8) 0, 3, none) := by kernel_rfl
theorem p14_3_4 : pj (regOf Try.f14 3) 4 = some (some 12, .extract (.tmp 8) 1, 4, none) := by kernel_rfl
theorem p14_3_5 : pj (regOf Try.f14 3) 5 = some (some 4, .assign (.tmp 11), 3, none) := by kernel_rfl
theorem p14_3_6 : pj (regOf Try.f14 3) 6 = some (some 5, .assign (.tmp 12), 4, none) := by kernel_rfl
theorem p14_4_0 : pj (regOf Try.f14 4) 0 = some (some 13, .move (.tmp 5), 4, none) := by kernel_rfl
theorem p14_4_1 : pj (regOf Try.f14 4) 1 = some (some 14, .unOp .not 4 (.tmp 13), 4, none) := by kernel_rfl
theorem p14_5_0 : pj (regOf Try.f14 5) 0 = some (some 2, .assign (.const (.int .i64 0)), 3, none) := by kernel_rfl
theorem p14_5_1 : pj (regOf Try.f14 5) 1 = some (some 3, .assign (.const (.int .i64 8)), 30, none) := by kernel_rfl
theorem p14_6_0 : pj (regOf Try.f14 6) 0 = some (some 15, .move (.tmp 0), 24, none) := by kernel_rfl
theorem p14_6_1 : pj (regOf Try.f14 6) 1 = some (some 16, .nilCheck (.tmp 15), 0, none) := by kernel_rfl
theorem p14_6_2 : pj (regOf Try.f14 6) 2 = some (some 17, .fieldAddr 29 (.tmp 16) 1, 0, none) := by kernel_rfl
theorem p14_6_3 : pj (regOf Try.f14 6) 3 = some (some 18, .load 27 (.tmp 17), 27, none) := by kernel_rfl
theorem p14_6_4 : pj (regOf Try.f14 6) 4 = some (some 19, .move (.tmp 4), 3, none) := by kernel_rfl
theorem p14_6_5 : pj (regOf Try.f14 6) 5 = some (some 20, .lookup 27 (.tmp 18) (.tmp 19) false, 3, none) := by kernel_rfl
theorem p14_6_6 : pj (regOf Try.f14 6) 6 = some (some 2, .assign (.tmp 20), 3, none) := by kernel_rfl
theorem p14_6_7 : pj (regOf Try.f14 6) 7 = some (some 3, .assign (.const (.int .i64 0)), 30, none) := by kernel_rfl
set_option maxHeartbeats 4000000 in
theorem next_any (g gm ck : Nat) (es : Array MapEntry) (l : Wp.LW) (now : Int) (w : World) (hll : l.length ≤ 1000) (hg : w.heap[g]? = some (.cells #[.int .i64 now, .map (some gm)] 29 (0, 0))) (hm : w.heap[gm]? = some (.map es ck)) (hF : MapI (Value.int .i64) es ck l) (hne : g ≠ gm) : Calls Try.prog 14 #[.pointer (some ⟨g, 0, none⟩)] w fun e w' => e = .returned (.tuple #[.int .i64 (nextP l).1, .int .i64 (nextP l).2]) ∧ Kp w w' (fun _ => False) := by
  have K_0 := Kp.refl w (fun _ => False)
  have B_g := hg
  have B_gm := hm
  have n_g_gm := hne
  refine enter (args := [Value.pointer (some ⟨g, 0, none⟩)]) (n := 21) Try.func14 body14 rfl rfl rfl ?_
  intro a hE
  refine c_reg R14_0_l ?_
  refine q0 p14_0_0 hE (st_assign rfl) ?_
  clear hE a; intro a hE
  refine q0 p14_0_1 hE (st_assign rfl) ?_
  clear hE a; intro a hE
  refine p_nil ?_
  refine x_norm ?_
  refine wp_seq ?_
  refine c_reg R14_1_l ?_
  refine q0 p14_1_0 hE (st_move rfl) ?_
  clear hE a; intro a hE
  refine q0 p14_1_1 hE (st_eqlP (b := false) tP24 rfl rfl rfl) ?_
  clear hE a; intro a hE
  refine p_nil ?_
  refine x_norm ?_
  refine c_cond (t := false) hE rfl ?_
  refine wp_skip ?_
  refine x_norm ?_
  rcases Decidable.em (firstI l = none) with hNONE | hNONE
  ·
    refine c_reg R14_3_l ?_
    refine q0 p14_3_0 hE (st_move rfl) ?_
    clear hE a; intro a hE
    refine p_cons (s_call (xs := [Operand.tmp 9]) (args := [Value.pointer (some ⟨g, 0, none⟩)]) p14_3_1 hE wn_none rfl rfl Try.func36 cl36 (first_no g gm ck es l now _ hll hNONE B_g B_gm hF n_g_gm) ?_)
    rintro e w1 ⟨rfl, hk⟩
    replace B_g := kp_blk B_g hk (fun h => h)
    replace B_gm := kp_blk B_gm hk (fun h => h)
    replace K_0 := K_0.then_ hk (fun _ h => h.elim)
    refine ⟨_, rfl, ?_⟩
    clear hE a; intro a hE
    refine q0 p14_3_2 hE (st_move rfl) ?_
    clear hE a; intro a hE
    refine q0 p14_3_3 hE (st_extract rfl rfl) ?_
    clear hE a; intro a hE
    refine q0 p14_3_4 hE (st_extract rfl rfl) ?_
    clear hE a; intro a hE
    refine q0 p14_3_5 hE (st_assign rfl) ?_
    clear hE a; intro a hE
    refine q0 p14_3_6 hE (st_assign rfl) ?_
    clear hE a; intro a hE
    refine p_nil ?_
    refine x_norm ?_
    refine wp_seq ?_
    refine c_reg R14_4_l ?_
    refine q0 p14_4_0 hE (st_move rfl) ?_
    clear hE a; intro a hE
    refine q0 p14_4_1 hE (st_not rfl rfl) ?_
    clear hE a; intro a hE
    refine p_nil ?_
    refine x_norm ?_
    refine c_cond (t := true) hE rfl ?_
    refine c_reg R14_5_l ?_
    refine q0 p14_5_0 hE (st_assign rfl) ?_
    clear hE a; intro a hE
    refine q0 p14_5_1 hE (st_assign rfl) ?_
    clear hE a; intro a hE
    refine p_nil ?_
    refine x_norm ?_
    refine wp_ret ?_
    refine x_ret ?_
    refine ret_list (rs := [.tmp 2, .tmp 3]) (vs := [Value.int .i64 0, Value.int .i64 8]) rfl hE (.tmp rfl (.tmp rfl .nil)) rfl ?_
    exact ⟨by unfold nextP; rw [hNONE], K_0⟩
  ·
    obtain ⟨p, hp⟩ := Option.ne_none_iff_exists'.1 hNONE
    refine c_reg R14_3_l ?_
    refine q0 p14_3_0 hE (st_move rfl) ?_
    clear hE a; intro a hE
    refine p_cons (s_call (xs := [Operand.tmp 9]) (args := [Value.pointer (some ⟨g, 0, none⟩)]) p14_3_1 hE wn_none rfl rfl Try.func36 cl36 (first_yes g gm ck es l now _ hll hp B_g B_gm hF n_g_gm) ?_)
    rintro e w2 ⟨rfl, hk⟩
    replace B_g := kp_blk B_g hk (fun h => h)
    replace B_gm := kp_blk B_gm hk (fun h => h)
    replace K_0 := K_0.then_ hk (fun _ h => h.elim)
    refine ⟨_, rfl, ?_⟩
    clear hE a; intro a hE
    refine q0 p14_3_2 hE (st_move rfl) ?_
    clear hE a; intro a hE
    refine q0 p14_3_3 hE (st_extract rfl rfl) ?_
    clear hE a; intro a hE
    refine q0 p14_3_4 hE (st_extract rfl rfl) ?_
    clear hE a; intro a hE
    refine q0 p14_3_5 hE (st_assign rfl) ?_
    clear hE a; intro a hE
    refine q0 p14_3_6 hE (st_assign rfl) ?_
    clear hE a; intro a hE
    refine p_nil ?_
    refine x_norm ?_
    refine wp_seq ?_
    refine c_reg R14_4_l ?_
    refine q0 p14_4_0 hE (st_move rfl) ?_
    clear hE a; intro a hE
    refine q0 p14_4_1 hE (st_not rfl rfl) ?_
    clear hE a; intro a hE
    refine p_nil ?_
    refine x_norm ?_
    refine c_cond (t := false) hE rfl ?_
    refine wp_skip ?_
    refine x_norm ?_
    refine c_reg R14_6_l ?_
    refine q0 p14_6_0 hE (st_move rfl) ?_
    clear hE a; intro a hE
    refine q0 p14_6_1 hE (st_nil rfl) ?_
    clear hE a; intro a hE
    refine q0 p14_6_2 hE (st_fieldAddr Try.underlying29 rfl tS27 rfl rfl) ?_
    clear hE a; intro a hE
    refine q0 p14_6_3 hE (st_load1 tA27 rfl ((blk_cell B_g 1).trans rfl)) ?_
    clear hE a; intro a hE
    refine q0 p14_6_4 hE (st_move rfl) ?_
    clear hE a; intro a hE
    refine p_cons (s_still (v := Value.int .i64 p.2) p14_6_5 hE wn_none rfl (Mi.st_look1 Try.underlying27 Try.underlying3 tZ3 rfl rfl hF B_gm (by rw [due_enc, dueI_mem hF.nodup (firstI_spec hp).1])) ?_)
    clear hE a; intro a hE
    refine q0 p14_6_6 hE (st_assign rfl) ?_
    clear hE a; intro a hE
    refine q0 p14_6_7 hE (st_assign rfl) ?_
    clear hE a; intro a hE
    refine p_nil ?_
    refine x_norm ?_
    refine wp_ret ?_
    refine ret_list (rs := [.tmp 2, .tmp 3]) (vs := [Value.int .i64 p.2, Value.int .i64 0]) rfl hE (.tmp rfl (.tmp rfl .nil)) rfl ?_
    exact ⟨by unfold nextP; rw [hp], K_0⟩
theorem clone_any (gm ck : Nat) (es : Array MapEntry) (w : World) (hm : w.heap[gm]? = some (.map es ck)) : Calls Try.prog 35 #[.map (some gm)] w fun e w' => ∃ b, w.heap.size ≤ b ∧ e = .returned (.map (some b)) ∧ w'.heap[b]? = some (.map es ck) ∧ Kp w w' (fun _ => False) := by
  refine (AnyW.maps_Clone Try.cloneB gm es ck w hm).mono ?_
  rintro e w' ⟨rfl, rfl⟩
  exact ⟨_, Nat.le_refl _, rfl, (Go.MapKept.heap_alloc w _).1, kp_alloc w _⟩
theorem R12_0_l : List.range (regOf Try.f12 0).size = [0] := by kernel_rfl
theorem R12_1_l : List.range (regOf Try.f12 1).size = [0, 1] := by kernel_rfl
theorem R12_2_l : List.range (regOf Try.f12 2).size = [0] := by kernel_rfl
theorem R12_3_l : List.range (regOf Try.f12 3).size = [0, 1, 2, 3, 4, 5, 6, 7, 8, 9, 10, 11] := by kernel_rfl
theorem body12 : Try.f12.body = some (.seq (.region 0 (regOf Try.f12 0) false) (.seq (.seq (.region 1 (regOf Try.f12 1) false) (.cond (Operand.tmp 4) (.seq (.region 2 (regOf Try.f12 2) false) (.ret)) (.skip))) (.seq (.region 3 (regOf Try.f12 3) true) (.ret)))) := by kernel_rfl
theorem p12_0_0 : pj (regOf Try.f12 0) 0 = some (some 2, .assign (.const (.pointer none)), 24, none) := by kernel_rfl
theorem p12_1_0 : pj (regOf Try.f12 1) 0 = some (some 3, .move (.tmp 0), 24, none) := by kernel_rfl
theorem p12_1_1 : pj (regOf Try.f12 1) 1 = some (some 4, .binOp .eql 24 (.tmp 3) (.const (.pointer none)) 24, 4, none) := by kernel_rfl
theorem ns12_3 : Region.noSelect (regOf Try.f12 3) = true := by kernel_rfl
theorem p12_3_0 : pj (regOf Try.f12 3) 0 = some (some 5, .move (.tmp 0), 24, none) := by kernel_rfl
theorem p12_3_1 : pj (regOf Try.f12 3) 1 = some (some 6, .nilCheck (.tmp 5), 0, none) := by kernel_rfl
theorem p12_3_2 : pj (regOf Try.f12 3) 2 = some (some 7, .fieldAddr 29 (.tmp 6) 0, 0, none) := by kernel_rfl
theorem p12_3_3 : pj (regOf Try.f12 3) 3 = some (some 8, .load 26 (.tmp 7), 26, none) := by kernel_rfl
theorem tA26 : (Try.prog.underlying 26).map aggD = some true := by kernel_rfl
theorem p12_3_4 : pj (regOf Try.f12 3) 4 = some (some 9, .move (.tmp 0), 24, none) := by kernel_rfl
theorem p12_3_5 : pj (regOf Try.f12 3) 5 = some (some 10, .nilCheck (.tmp 9), 0, none) := by kernel_rfl
theorem p12_3_6 : pj (regOf Try.f12 3) 6 = some (some 11, .fieldAddr 29 (.tmp 10) 1, 0, none) := by kernel_rfl
theorem p12_3_7 : pj (regOf Try.f12 3) 7 = some (some 12, .load 27 (.tmp 11), 27, none) := by kernel_rfl
theorem p12_3_8 : pj (regOf Try.f12 3) 8 = some (some 13, .call { callee := .value (.func 35), args := #[.tmp 12], argTypes := #[27] }, 27, none) := by kernel_rfl
theorem cl35 : callable Try.f35 = true := by kernel_rfl
theorem p12_3_9 : pj (regOf Try.f12 3) 9 = some (some 14, .build 29 #[(0, .tmp 8), (1, .tmp 13)], 29, none) := by kernel_rfl
theorem p12_3_10 : pj (regOf Try.f12 3) 10 = some (some 15, .box 29 (.tmp 14), 24, none) := by kernel_rfl
theorem p12_3_11 : pj (regOf Try.f12 3) 11 = some (some 2, .assign (.tmp 15), 24, none) := by kernel_rfl
set_option maxHeartbeats 4000000 in
theorem copy_any (g gm ck : Nat) (es : Array MapEntry) (l : Wp.LW) (now : Int) (w : World) (hg : w.heap[g]? = some (.cells #[.int .i64 now, .map (some gm)] 29 (0, 0))) (hm : w.heap[gm]? = some (.map es ck)) (hF : MapI (Value.int .i64) es ck l) (hne : g ≠ gm) : Calls Try.prog 12 #[.pointer (some ⟨g, 0, none⟩)] w fun e w' => ∃ b m, e = .returned (.pointer (some ⟨b, 0, none⟩)) ∧ w.heap.size ≤ b ∧ w.heap.size ≤ m ∧ b ≠ m ∧ w'.heap[b]? = some (.cells #[.int .i64 now, .map (some m)] 29 (0, 0)) ∧ w'.heap[m]? = some (.map es ck) ∧ Kp w w' (fun _ => False) := by
  have K_0 := Kp.refl w (fun _ => False)
  have B_g := hg
  have B_gm := hm
  have n_g_gm := hne
  refine enter (args := [Value.pointer (some ⟨g, 0, none⟩)]) (n := 16) Try.func12 body12 rfl rfl rfl ?_
  intro a hE
  refine c_reg R12_0_l ?_
  refine q0 p12_0_0 hE (st_assign rfl) ?_
  clear hE a; intro a hE
  refine p_nil ?_
  refine x_norm ?_
  refine wp_seq ?_
  refine c_reg R12_1_l ?_
  refine q0 p12_1_0 hE (st_move rfl) ?_
  clear hE a; intro a hE
  refine q0 p12_1_1 hE (st_eqlP (b := false) tP24 rfl rfl rfl) ?_
  clear hE a; intro a hE
  refine p_nil ?_
  refine x_norm ?_
  refine c_cond (t := false) hE rfl ?_
  refine wp_skip ?_
  refine x_norm ?_
  refine c_drawS (S := fun W => W.heap[g]? = some (.cells #[Value.int .i64 now, Value.map (some gm)] 29 (0, 0)) ∧ W.heap[gm]? = some (.map es ck) ∧ True) rfl rfl (listed := #[false, false, false, false, false, false, false, false, false, false, false, false]) rfl ?_
  intro w1 hh hk
  replace B_g := kp_blk B_g hk (fun h => h)
  replace B_gm := kp_blk B_gm hk (fun h => h)
  replace K_0 := K_0.then_ hk (fun _ h => h.elim)
  clear hh hk
  refine d_take (v := Value.pointer (some ⟨g, 0, none⟩)) p12_3_0 ns12_3 (by kernel_rfl) (by kernel_rfl) (fun _ _ _ h => h) hE wn_none rfl ⟨B_g, B_gm, trivial⟩ (fun W hS => (st_move rfl)) rfl ?_
  clear hE a; intro a hE
  refine d_take (v := Value.pointer (some ⟨g, 0, none⟩)) p12_3_1 ns12_3 (by kernel_rfl) (by kernel_rfl) (fun _ _ _ h => h) hE wn_none rfl ⟨B_g, B_gm, trivial⟩ (fun W hS => (st_nil rfl)) rfl ?_
  clear hE a; intro a hE
  refine d_take (v := Value.pointer (some ⟨g, 0, none⟩)) p12_3_2 ns12_3 (by kernel_rfl) (by kernel_rfl) (fun _ _ _ h => h) hE wn_none rfl ⟨B_g, B_gm, trivial⟩ (fun W hS => (st_fieldAddr Try.underlying29 rfl tS26 rfl rfl)) rfl ?_
  clear hE a; intro a hE
  refine d_take (v := Value.agg #[Value.int .i64 now]) p12_3_3 ns12_3 (by kernel_rfl) (by kernel_rfl) (fun _ _ _ h => h) hE wn_none rfl ⟨B_g, B_gm, trivial⟩ (fun W hS => (st_loadN (off := 0) (k := 1) (vs := [Value.int .i64 now]) tA26 tS26 rfl hS.1 rfl rfl)) rfl ?_
  clear hE a; intro a hE
  refine d_take (v := Value.pointer (some ⟨g, 0, none⟩)) p12_3_4 ns12_3 (by kernel_rfl) (by kernel_rfl) (fun _ _ _ h => h) hE wn_none rfl ⟨B_g, B_gm, trivial⟩ (fun W hS => (st_move rfl)) rfl ?_
  clear hE a; intro a hE
  refine d_take (v := Value.pointer (some ⟨g, 0, none⟩)) p12_3_5 ns12_3 (by kernel_rfl) (by kernel_rfl) (fun _ _ _ h => h) hE wn_none rfl ⟨B_g, B_gm, trivial⟩ (fun W hS => (st_nil rfl)) rfl ?_
  clear hE a; intro a hE
  refine d_take (v := Value.pointer (some ⟨g, 1, none⟩)) p12_3_6 ns12_3 (by kernel_rfl) (by kernel_rfl) (fun _ _ _ h => h) hE wn_none rfl ⟨B_g, B_gm, trivial⟩ (fun W hS => (st_fieldAddr Try.underlying29 rfl tS27 rfl rfl)) rfl ?_
  clear hE a; intro a hE
  refine d_take (v := Value.map (some gm)) p12_3_7 ns12_3 (by kernel_rfl) (by kernel_rfl) (fun _ _ _ h => h) hE wn_none rfl ⟨B_g, B_gm, trivial⟩ (fun W hS => (st_load1 tA27 rfl ((blk_cell hS.1 1).trans rfl))) rfl ?_
  clear hE a; intro a hE
  refine d_one (by kernel_rfl) rfl (s_call (xs := [Operand.tmp 12]) (args := [Value.map (some gm)]) p12_3_8 hE wn_none rfl rfl Try.func35 cl35 (clone_any gm ck es _ B_gm) ?_)
  rintro e w4 ⟨gc2, z3, rfl, B_gc2, hk⟩
  have n_g_gc2 : g ≠ gc2 := ne_new B_g z3
  have n_gm_gc2 : gm ≠ gc2 := ne_new B_gm z3
  have z_0_gc2 := Nat.le_trans K_0.kept.1 z3
  replace B_g := kp_blk B_g hk (fun h => h)
  replace B_gm := kp_blk B_gm hk (fun h => h)
  replace K_0 := K_0.then_ hk (fun _ h => h.elim)
  refine ⟨_, rfl, ?_⟩
  clear hE a; intro a hE
  refine ⟨⟨B_g, B_gm, trivial⟩, ?_⟩
  refine d_take (v := Value.agg #[Value.int .i64 now, Value.map (some gc2)]) p12_3_9 ns12_3 (by kernel_rfl) (by kernel_rfl) (fun _ _ _ h => h) hE wn_none rfl ⟨B_g, B_gm, trivial⟩ (fun W hS => (st_build (xs := [(0, Operand.tmp 8), (1, Operand.tmp 13)]) (vs := [(0, Value.agg #[Value.int .i64 now]), (1, Value.map (some gc2))]) (cs := #[Value.int .i64 now, Value.map (some gc2)]) rfl (by kernel_rfl))) rfl ?_
  clear hE a; intro a hE
  refine d_one (by kernel_rfl) rfl (s_box p12_3_10 hE wn_none rfl rfl ?_)
  clear hE a; intro g5 w6 z7 B_g5 hk a hE
  replace B_g5 : w6.heap[g5]? = some (.cells #[Value.int .i64 now, Value.map (some gc2)] 29 (0, 0)) := B_g5
  have n_g_g5 : g ≠ g5 := ne_new B_g z7
  have n_gm_g5 : gm ≠ g5 := ne_new B_gm z7
  have n_gc2_g5 : gc2 ≠ g5 := ne_new B_gc2 z7
  have z_0_g5 := Nat.le_trans K_0.kept.1 z7
  replace B_g := kp_blk B_g hk (fun h => h)
  replace B_gm := kp_blk B_gm hk (fun h => h)
  replace B_gc2 := kp_blk B_gc2 hk (fun h => h)
  replace K_0 := K_0.then_ hk (fun _ h => h.elim)
  clear hk
  refine ⟨⟨B_g, B_gm, trivial⟩, ?_⟩
  refine d_take (v := Value.pointer (some ⟨g5, 0, none⟩)) p12_3_11 ns12_3 (by kernel_rfl) (by kernel_rfl) (fun _ _ _ h => h) hE wn_none rfl ⟨B_g, B_gm, trivial⟩ (fun W hS => (st_assign rfl)) rfl ?_
  clear hE a; intro a hE
  refine d_end (by kernel_rfl) ?_
  refine x_norm ?_
  refine wp_ret ?_
  refine ret_one (v := Value.pointer (some ⟨g5, 0, none⟩)) rfl hE (.tmp rfl .nil) ?_
  exact ⟨g5, gc2, rfl, z_0_g5, z_0_gc2, (Ne.symm n_gc2_g5), B_g5, B_gc2, K_0⟩
theorem R45_0_l : List.range (regOf Try.f45 0).size = [0] := by kernel_rfl
theorem R45_1_l : List.range (regOf Try.f45 1).size = [0] := by kernel_rfl
theorem R45_2_l : List.range (regOf Try.f45 2).size = [0, 1] := by kernel_rfl
theorem R45_3_l : List.range (regOf Try.f45 3).size = [0, 1] := by kernel_rfl
theorem R45_4_l : List.range (regOf Try.f45 4).size = [0, 1] := by kernel_rfl
theorem R45_5_l : List.range (regOf Try.f45 5).size = [0, 1, 2, 3] := by kernel_rfl
theorem R45_6_l : List.range (regOf Try.f45 6).size = [0] := by kernel_rfl
theorem body45 : Try.f45.body = some (.seq (.region 0 (regOf Try.f45 0) false) (.seq (.seq (.region 1 (regOf Try.f45 1) false) (.block 0 (.seq (.seq (.region 2 (regOf Try.f45 2) false) (.cond (Operand.tmp 4) (.skip) (.seq (.region 3 (regOf Try.f45 3) false) (.cond (Operand.tmp 4) (.skip) (.region 4 (regOf Try.f45 4) false))))) (.cond (Operand.tmp 4) (.seq (.region 5 (regOf Try.f45 5) false) (.ret)) (.skip))))) (.seq (.region 6 (regOf Try.f45 6) false) (.ret)))) := by kernel_rfl
theorem p45_0_0 : pj (regOf Try.f45 0) 0 = some (some 2, .assign (.const (.int .i64 0)), 3, none) := by kernel_rfl
theorem p45_1_0 : pj (regOf Try.f45 1) 0 = some (some 3, .move (.tmp 0), 3, none) := by kernel_rfl
theorem p45_2_0 : pj (regOf Try.f45 2) 0 = some (some 5, .binOp .eql 3 (.tmp 3) (.const (.int .i64 1)) 3, 4, none) := by kernel_rfl
theorem p45_2_1 : pj (regOf Try.f45 2) 1 = some (some 4, .assign (.tmp 5), 4, none) := by kernel_rfl
theorem p45_5_0 : pj (regOf Try.f45 5) 0 = some (some 8, .move (.tmp 0), 3, none) := by kernel_rfl
theorem p45_5_1 : pj (regOf Try.f45 5) 1 = some (some 9, .binOp .mul 3 (.const (.int .i64 8)) (.tmp 8) 3, 3, none) := by kernel_rfl
theorem p45_5_2 : pj (regOf Try.f45 5) 2 = some (some 10, .binOp .shl 3 (.const (.int .i64 1)) (.tmp 9) 3, 3, none) := by kernel_rfl
theorem p45_5_3 : pj (regOf Try.f45 5) 3 = some (some 2, .assign (.tmp 10), 3, none) := by kernel_rfl
set_option maxHeartbeats 4000000 in
theorem span1 (w : World) : Calls Try.prog 45 #[.int .i64 1] w fun e w' => e = .returned (.int .i64 256) ∧ Kp w w' (fun _ => False) := by
  have K_0 := Kp.refl w (fun _ => False)
  refine enter (args := [Value.int .i64 1]) (n := 11) Try.func45 body45 rfl rfl rfl ?_
  intro a hE
  refine c_reg R45_0_l ?_
  refine q0 p45_0_0 hE (st_assign rfl) ?_
  clear hE a; intro a hE
  refine p_nil ?_
  refine x_norm ?_
  refine wp_seq ?_
  refine c_reg R45_1_l ?_
  refine q0 p45_1_0 hE (st_move rfl) ?_
  clear hE a; intro a hE
  refine p_nil ?_
  refine x_norm ?_
  refine wp_block ?_
  refine wp_seq ?_
  refine c_reg R45_2_l ?_
  refine q0 p45_2_0 hE (st_eql (b := true) rfl rfl (by decide)) ?_
  clear hE a; intro a hE
  refine q0 p45_2_1 hE (st_assign rfl) ?_
  clear hE a; intro a hE
  refine p_nil ?_
  refine x_norm ?_
  refine c_cond (t := true) hE rfl ?_
  refine wp_skip ?_
  refine x_norm ?_
  refine c_cond (t := true) hE rfl ?_
  refine c_reg R45_5_l ?_
  refine q0 p45_5_0 hE (st_move rfl) ?_
  clear hE a; intro a hE
  refine q0 p45_5_1 hE (st_mul (z := 8) rfl rfl (by decide)) ?_
  clear hE a; intro a hE
  refine q0 p45_5_2 hE (st_shl (z := 256) rfl rfl (by decide) (by decide) (by decide)) ?_
  clear hE a; intro a hE
  refine q0 p45_5_3 hE (st_assign rfl) ?_
  clear hE a; intro a hE
  refine p_nil ?_
  refine x_norm ?_
  refine wp_ret ?_
  refine x_retB ?_
  refine x_ret ?_
  refine ret_one (v := Value.int .i64 256) rfl hE (.tmp rfl .nil) ?_
  exact ⟨rfl, K_0⟩
def seqB (n : Int) : Bool := decide (0 ≤ n ∧ n < 256)
theorem R32_0_l : List.range (regOf Try.f32 0).size = [0] := by kernel_rfl
theorem R32_1_l : List.range (regOf Try.f32 1).size = [0, 1, 2] := by kernel_rfl
theorem R32_2_l : List.range (regOf Try.f32 2).size = [0, 1, 2] := by kernel_rfl
theorem R32_3_l : List.range (regOf Try.f32 3).size = [0] := by kernel_rfl
theorem R32_4_l : List.range (regOf Try.f32 4).size = [0, 1, 2] := by kernel_rfl
theorem R32_5_l : List.range (regOf Try.f32 5).size = [0, 1, 2, 3, 4, 5, 6] := by kernel_rfl
theorem R32_6_l : List.range (regOf Try.f32 6).size = [0] := by kernel_rfl
theorem R32_7_l : List.range (regOf Try.f32 7).size = [0, 1] := by kernel_rfl
theorem R32_8_l : List.range (regOf Try.f32 8).size = [0, 1, 2] := by kernel_rfl
theorem body32 : Try.f32.body = some (.seq (.region 0 (regOf Try.f32 0) false) (.seq (.region 1 (regOf Try.f32 1) false) (.seq (.seq (.region 2 (regOf Try.f32 2) false) (.block 0 (.loop (.seq (.region 3 (regOf Try.f32 3) false) (.seq (.cond (Operand.tmp 13) (.skip) (.exit 0)) (.seq (.block 1 (.seq (.region 4 (regOf Try.f32 4) false) (.seq (.region 5 (regOf Try.f32 5) false) (.cond (Operand.tmp 22) (.seq (.region 6 (regOf Try.f32 6) false) (.ret)) (.skip))))) (.region 7 (regOf Try.f32 7) false))))))) (.seq (.region 8 (regOf Try.f32 8) false) (.ret))))) := by kernel_rfl
theorem p32_0_0 : pj (regOf Try.f32 0) 0 = some (some 4, .assign (.const (.bool false)), 4, none) := by kernel_rfl
theorem p32_1_0 : pj (regOf Try.f32 1) 0 = some (some 8, .move (.tmp 0), 3, none) := by kernel_rfl
theorem p32_1_1 : pj (regOf Try.f32 1) 1 = some (some 9, .call { callee := .value (.func 45), args := #[.tmp 8], argTypes := #[3] }, 3, none) := by kernel_rfl
theorem cl45 : callable Try.f45 = true := by kernel_rfl
theorem p32_1_2 : pj (regOf Try.f32 1) 2 = some (some 5, .assign (.tmp 9), 3, none) := by kernel_rfl
theorem p32_2_0 : pj (regOf Try.f32 2) 0 = some (some 10, .move (.tmp 1), 35, none) := by kernel_rfl
theorem p32_2_1 : pj (regOf Try.f32 2) 1 = some (some 11, .call { callee := .builtin .len, args := #[.tmp 10], argTypes := #[35] }, 3, none) := by kernel_rfl
theorem p32_2_2 : pj (regOf Try.f32 2) 2 = some (some 12, .move (.const (.int .i64 0)), 3, none) := by kernel_rfl
theorem p32_3_0 : pj (regOf Try.f32 3) 0 = some (some 13, .binOp .lss 3 (.tmp 12) (.tmp 11) 3, 0, none) := by kernel_rfl
theorem p32_4_0 : pj (regOf Try.f32 4) 0 = some (some 14, .indexAddr 35 (.tmp 10) (.tmp 12), 0, none) := by kernel_rfl
theorem p32_4_1 : pj (regOf Try.f32 4) 1 = some (some 15, .load 3 (.tmp 14), 3, none) := by kernel_rfl
theorem p32_4_2 : pj (regOf Try.f32 4) 2 = some (some 7, .assign (.tmp 15), 3, none) := by kernel_rfl
theorem p32_5_0 : pj (regOf Try.f32 5) 0 = some (some 16, .move (.tmp 7), 3, none) := by kernel_rfl
theorem p32_5_1 : pj (regOf Try.f32 5) 1 = some (some 17, .binOp .lss 3 (.tmp 16) (.const (.int .i64 0)) 3, 4, none) := by kernel_rfl
theorem p32_5_2 : pj (regOf Try.f32 5) 2 = some (some 18, .move (.tmp 17), 4, none) := by kernel_rfl
theorem p32_5_3 : pj (regOf Try.f32 5) 3 = some (some 19, .move (.tmp 7), 3, some (2, false)) := by kernel_rfl
theorem g32_5_2 : dstOf (regOf Try.f32 5) 2 = some 18 := by kernel_rfl
theorem p32_5_4 : pj (regOf Try.f32 5) 4 = some (some 20, .move (.tmp 5), 3, some (2, false)) := by kernel_rfl
theorem p32_5_5 : pj (regOf Try.f32 5) 5 = some (some 21, .binOp .geq 3 (.tmp 19) (.tmp 20) 3, 4, some (2, false)) := by kernel_rfl
theorem p32_5_6 : pj (regOf Try.f32 5) 6 = some (some 22, .pick (.tmp 18) (.const (.bool true)) (.tmp 21), 4, none) := by kernel_rfl
theorem p32_7_0 : pj (regOf Try.f32 7) 0 = some (some 23, .binOp .add 3 (.tmp 12) (.const (.int .i64 1)) 3, 3, none) := by kernel_rfl
theorem p32_7_1 : pj (regOf Try.f32 7) 1 = some (some 12, .move (.tmp 23), 3, none) := by kernel_rfl
theorem p32_8_0 : pj (regOf Try.f32 8) 0 = some (some 24, .move (.tmp 5), 3, none) := by kernel_rfl
theorem p32_8_1 : pj (regOf Try.f32 8) 1 = some (some 25, .binOp .gtr 3 (.tmp 24) (.const (.int .i64 0)) 3, 4, none) := by kernel_rfl
theorem p32_8_2 : pj (regOf Try.f32 8) 2 = some (some 4, .assign (.tmp 25), 4, none) := by kernel_rfl
theorem p32_6_0 : pj (regOf Try.f32 6) 0 = some (some 4, .assign (.const (.bool false)), 4, none) := by kernel_rfl
set_option maxHeartbeats 4000000 in
theorem fits1 (b : Nat) (x : Int) (r : Bool) (hr : seqB x = r) (w : World) (hb9 : w.heap[b]? = some (.cells #[.int .i64 x] 3 (0, 0))) : Calls Try.prog 32 #[.int .i64 1, .slice (some ⟨b, 0, none⟩) 1 1] w fun e w' => e = .returned (.bool r) ∧ Kp w w' (fun _ => False) := by
  have K_0 := Kp.refl w (fun _ => False)
  have B_b := hb9
  refine enter (args := [Value.int .i64 1, Value.slice (some ⟨b, 0, none⟩) 1 1]) (n := 26) Try.func32 body32 rfl rfl rfl ?_
  intro a hE
  refine c_reg R32_0_l ?_
  refine q0 p32_0_0 hE (st_assign rfl) ?_
  clear hE a; intro a hE
  refine p_nil ?_
  refine x_norm ?_
  refine c_reg R32_1_l ?_
  refine q0 p32_1_0 hE (st_move rfl) ?_
  clear hE a; intro a hE
  refine p_cons (s_call (xs := [Operand.tmp 8]) (args := [Value.int .i64 1]) p32_1_1 hE wn_none rfl rfl Try.func45 cl45 (span1  _) ?_)
  rintro e w1 ⟨rfl, hk⟩
  replace B_b := kp_blk B_b hk (fun h => h)
  replace K_0 := K_0.then_ hk (fun _ h => h.elim)
  refine ⟨_, rfl, ?_⟩
  clear hE a; intro a hE
  refine q0 p32_1_2 hE (st_assign rfl) ?_
  clear hE a; intro a hE
  refine p_nil ?_
  refine x_norm ?_
  refine wp_seq ?_
  refine c_reg R32_2_l ?_
  refine q0 p32_2_0 hE (st_move rfl) ?_
  clear hE a; intro a hE
  refine q0 p32_2_1 hE (st_len Try.underlying35 rfl) ?_
  clear hE a; intro a hE
  refine q0 p32_2_2 hE (st_move rfl) ?_
  clear hE a; intro a hE
  refine p_nil ?_
  refine x_norm ?_
  refine wp_block ?_
  refine wp_loop_rounds 2 ?_
  refine (Eq.mpr (rounds_succ (n := 1)) ?_)
  refine c_reg R32_3_l ?_
  refine q0 p32_3_0 hE (st_lss (b := true) rfl rfl (by decide)) ?_
  clear hE a; intro a hE
  refine p_nil ?_
  refine x_norm ?_
  refine wp_seq ?_
  refine c_cond (t := true) hE rfl ?_
  refine wp_skip ?_
  refine x_norm ?_
  refine wp_seq ?_
  refine wp_block ?_
  refine c_reg R32_4_l ?_
  refine q0 p32_4_0 hE (st_indexAddr (i := 0) Try.underlying35 tS3 rfl rfl (by decide) rfl) ?_
  clear hE a; intro a hE
  refine q0 p32_4_1 hE (st_load1 tA3 rfl ((blk_cell B_b 0).trans rfl)) ?_
  clear hE a; intro a hE
  refine q0 p32_4_2 hE (st_assign rfl) ?_
  clear hE a; intro a hE
  refine p_nil ?_
  refine x_norm ?_
  rcases Decidable.em (0 ≤ x) with hP1 | hP1
  ·
    rcases Decidable.em (x < 256) with hP2 | hP2
    ·
      refine c_reg R32_5_l ?_
      refine q0 p32_5_0 hE (st_move rfl) ?_
      clear hE a; intro a hE
      refine q0 p32_5_1 hE (st_lss (b := false) rfl rfl (decide_eq_false (by omega))) ?_
      clear hE a; intro a hE
      refine q0 p32_5_2 hE (st_move rfl) ?_
      clear hE a; intro a hE
      refine p_cons (s_still p32_5_3 hE (wn_some g32_5_2 rfl rfl) rfl (st_move rfl) ?_)
      clear hE a; intro a hE
      refine p_cons (s_still p32_5_4 hE (wn_some g32_5_2 rfl rfl) rfl (st_move rfl) ?_)
      clear hE a; intro a hE
      refine p_cons (s_still p32_5_5 hE (wn_some g32_5_2 rfl rfl) rfl (st_geq (b := false) rfl rfl (decide_eq_false (by omega))) ?_)
      clear hE a; intro a hE
      refine q0 p32_5_6 hE (st_pick rfl rfl) ?_
      clear hE a; intro a hE
      refine p_nil ?_
      refine x_norm ?_
      refine c_cond (t := false) hE rfl ?_
      refine wp_skip ?_
      refine x_normB ?_
      refine x_norm ?_
      refine c_regL R32_7_l ?_
      refine q0 p32_7_0 hE (st_add (z := 1) rfl rfl (by decide)) ?_
      clear hE a; intro a hE
      refine q0 p32_7_1 hE (st_move rfl) ?_
      clear hE a; intro a hE
      refine p_nil ?_
      refine x_norm ?_
      refine (Eq.mpr (rounds_succ (n := 0)) ?_)
      refine c_reg R32_3_l ?_
      refine q0 p32_3_0 hE (st_lss (b := false) rfl rfl (by decide)) ?_
      clear hE a; intro a hE
      refine p_nil ?_
      refine x_norm ?_
      refine wp_seq ?_
      refine c_cond (t := false) hE rfl ?_
      refine wp_exit ?_
      refine x_exit ?_
      refine x_exit ?_
      refine x_in ?_
      refine x_norm ?_
      refine c_reg R32_8_l ?_
      refine q0 p32_8_0 hE (st_move rfl) ?_
      clear hE a; intro a hE
      refine q0 p32_8_1 hE (st_gtr (b := true) rfl rfl (by decide)) ?_
      clear hE a; intro a hE
      refine q0 p32_8_2 hE (st_assign rfl) ?_
      clear hE a; intro a hE
      refine p_nil ?_
      refine x_norm ?_
      refine wp_ret ?_
      refine ret_one (v := Value.bool true) rfl hE (.tmp rfl .nil) ?_
      exact ⟨by rw [← hr]; unfold seqB; rw [decide_eq_true ⟨hP1, hP2⟩], K_0⟩
    ·
      refine c_reg R32_5_l ?_
      refine q0 p32_5_0 hE (st_move rfl) ?_
      clear hE a; intro a hE
      refine q0 p32_5_1 hE (st_lss (b := false) rfl rfl (decide_eq_false (by omega))) ?_
      clear hE a; intro a hE
      refine q0 p32_5_2 hE (st_move rfl) ?_
      clear hE a; intro a hE
      refine p_cons (s_still p32_5_3 hE (wn_some g32_5_2 rfl rfl) rfl (st_move rfl) ?_)
      clear hE a; intro a hE
      refine p_cons (s_still p32_5_4 hE (wn_some g32_5_2 rfl rfl) rfl (st_move rfl) ?_)
      clear hE a; intro a hE
      refine p_cons (s_still p32_5_5 hE (wn_some g32_5_2 rfl rfl) rfl (st_geq (b := true) rfl rfl (decide_eq_true (by omega))) ?_)
      clear hE a; intro a hE
      refine q0 p32_5_6 hE (st_pick rfl rfl) ?_
      clear hE a; intro a hE
      refine p_nil ?_
      refine x_norm ?_
      refine c_cond (t := true) hE rfl ?_
      refine c_reg R32_6_l ?_
      refine q0 p32_6_0 hE (st_assign rfl) ?_
      clear hE a; intro a hE
      refine p_nil ?_
      refine x_norm ?_
      refine wp_ret ?_
      refine x_retB ?_
      refine x_ret ?_
      refine x_ret ?_
      refine x_retB ?_
      refine x_ret ?_
      refine ret_one (v := Value.bool false) rfl hE (.tmp rfl .nil) ?_
      exact ⟨by rw [← hr]; unfold seqB; rw [decide_eq_false (by omega)], K_0⟩
  ·
    refine c_reg R32_5_l ?_
    refine q0 p32_5_0 hE (st_move rfl) ?_
    clear hE a; intro a hE
    refine q0 p32_5_1 hE (st_lss (b := true) rfl rfl (decide_eq_true (by omega))) ?_
    clear hE a; intro a hE
    refine q0 p32_5_2 hE (st_move rfl) ?_
    clear hE a; intro a hE
    refine p_cons (s_skip p32_5_3 hE (wn_some g32_5_2 rfl rfl) rfl ?_)
    clear hE a; intro a hE
    refine p_cons (s_skip p32_5_4 hE (wn_some g32_5_2 rfl rfl) rfl ?_)
    clear hE a; intro a hE
    refine p_cons (s_skip p32_5_5 hE (wn_some g32_5_2 rfl rfl) rfl ?_)
    clear hE a; intro a hE
    refine q0 p32_5_6 hE (st_pick rfl rfl) ?_
    clear hE a; intro a hE
    refine p_nil ?_
    refine x_norm ?_
    refine c_cond (t := true) hE rfl ?_
    refine c_reg R32_6_l ?_
    refine q0 p32_6_0 hE (st_assign rfl) ?_
    clear hE a; intro a hE
    refine p_nil ?_
    refine x_norm ?_
    refine wp_ret ?_
    refine x_retB ?_
    refine x_ret ?_
    refine x_ret ?_
    refine x_retB ?_
    refine x_ret ?_
    refine ret_one (v := Value.bool false) rfl hE (.tmp rfl .nil) ?_
    exact ⟨by rw [← hr]; unfold seqB; rw [decide_eq_false (by omega)], K_0⟩
/-- What is wrong with a timer. -/
def codeW (now x n : Int) : Int := if seqB x = true ∧ 1 ≤ n ∧ n ≤ 1099511627776 then (if 2305843009213693952 - now < n then 14 else 0) else 1
def setW (l : LW) (now x n : Int) : LW := if codeW now x n = 0 then putI l x (now + n) else l
theorem wf64 {x : Int} (h1 : -9223372036854775808 ≤ x) (h2 : x ≤ 9223372036854775807) : (Lit.int .i64 x).wf = true := by
  simp [Lit.wf, IntKind.min, IntKind.max, IntKind.signed, IntKind.bits]
  omega
theorem R8_0_l : List.range (regOf Try.f8 0).size = [0] := by kernel_rfl
theorem R8_1_l : List.range (regOf Try.f8 1).size = [0, 1, 2] := by kernel_rfl
theorem R8_2_l : List.range (regOf Try.f8 2).size = [0] := by kernel_rfl
theorem R8_3_l : List.range (regOf Try.f8 3).size = [0, 1, 2, 3, 4, 5, 6, 7, 8, 9, 10, 11, 12] := by kernel_rfl
theorem R8_4_l : List.range (regOf Try.f8 4).size = [0] := by kernel_rfl
theorem R8_5_l : List.range (regOf Try.f8 5).size = [0, 1, 2, 3, 4, 5, 6, 7, 8] := by kernel_rfl
theorem R8_6_l : List.range (regOf Try.f8 6).size = [0] := by kernel_rfl
theorem R8_7_l : List.range (regOf Try.f8 7).size = [0, 1, 2, 3, 4] := by kernel_rfl
theorem R8_8_l : List.range (regOf Try.f8 8).size = [0, 1, 2, 3, 4] := by kernel_rfl
theorem R8_9_l : List.range (regOf Try.f8 9).size = [0, 1, 2, 3, 4, 5, 6, 7, 8, 9, 10, 11, 12] := by kernel_rfl
theorem R8_10_l : List.range (regOf Try.f8 10).size = [0] := by kernel_rfl
theorem body8 : Try.f8.body = some (.seq (.region 0 (regOf Try.f8 0) false) (.seq (.block 0 (.seq (.region 1 (regOf Try.f8 1) false) (.cond (Operand.tmp 7) (.seq (.region 2 (regOf Try.f8 2) false) (.ret)) (.seq (.region 3 (regOf Try.f8 3) false) (.cond (Operand.tmp 10) (.seq (.region 4 (regOf Try.f8 4) false) (.ret)) (.seq (.region 5 (regOf Try.f8 5) false) (.cond (Operand.tmp 23) (.seq (.region 6 (regOf Try.f8 6) false) (.ret)) (.skip)))))))) (.seq (.seq (.region 7 (regOf Try.f8 7) false) (.cond (Operand.tmp 36) (.region 8 (regOf Try.f8 8) false) (.skip))) (.seq (.region 9 (regOf Try.f8 9) true) (.seq (.region 10 (regOf Try.f8 10) false) (.ret)))))) := by kernel_rfl
theorem p8_0_0 : pj (regOf Try.f8 0) 0 = some (some 6, .assign (.const (.int .i64 0)), 30, none) := by kernel_rfl
theorem p8_1_0 : pj (regOf Try.f8 1) 0 = some (some 8, .move (.tmp 0), 24, none) := by kernel_rfl
theorem p8_1_1 : pj (regOf Try.f8 1) 1 = some (some 9, .binOp .eql 24 (.tmp 8) (.const (.pointer none)) 24, 4, none) := by kernel_rfl
theorem p8_1_2 : pj (regOf Try.f8 1) 2 = some (some 7, .assign (.tmp 9), 4, none) := by kernel_rfl
theorem p8_3_0 : pj (regOf Try.f8 3) 0 = some (some 11, .move (.tmp 1), 3, none) := by kernel_rfl
theorem p8_3_1 : pj (regOf Try.f8 3) 1 = some (some 12, .buildSlice 35 1 #[(0, .tmp 11)], 35, none) := by kernel_rfl
theorem p8_3_2 : pj (regOf Try.f8 3) 2 = some (some 13, .call { callee := .value (.func 32), args := #[.const (.int .i64 1), .tmp 12], argTypes := #[3, 35] }, 4, none) := by kernel_rfl
theorem cl32 : callable Try.f32 = true := by kernel_rfl
theorem p8_3_3 : pj (regOf Try.f8 3) 3 = some (some 14, .unOp .not 4 (.tmp 13), 4, none) := by kernel_rfl
theorem p8_3_4 : pj (regOf Try.f8 3) 4 = some (some 15, .move (.tmp 14), 4, none) := by kernel_rfl
theorem p8_3_5 : pj (regOf Try.f8 3) 5 = some (some 16, .move (.tmp 2), 3, some (4, false)) := by kernel_rfl
theorem g8_3_4 : dstOf (regOf Try.f8 3) 4 = some 15 := by kernel_rfl
theorem p8_3_6 : pj (regOf Try.f8 3) 6 = some (some 17, .binOp .lss 3 (.tmp 16) (.const (.int .i64 1)) 3, 4, some (4, false)) := by kernel_rfl
theorem p8_3_7 : pj (regOf Try.f8 3) 7 = some (some 18, .pick (.tmp 15) (.const (.bool true)) (.tmp 17), 4, none) := by kernel_rfl
theorem p8_3_8 : pj (regOf Try.f8 3) 8 = some (some 19, .move (.tmp 18), 4, none) := by kernel_rfl
theorem p8_3_9 : pj (regOf Try.f8 3) 9 = some (some 20, .move (.tmp 2), 3, some (8, false)) := by kernel_rfl
theorem g8_3_8 : dstOf (regOf Try.f8 3) 8 = some 19 := by kernel_rfl
theorem p8_3_10 : pj (regOf Try.f8 3) 10 = some (some 21, .binOp .gtr 3 (.tmp 20) (.const (.int .i64 1099511627776)) 3, 4, some (8, false)) := by kernel_rfl
theorem p8_3_11 : pj (regOf Try.f8 3) 11 = some (some 22, .pick (.tmp 19) (.const (.bool true)) (.tmp 21), 4, none) := by kernel_rfl
theorem p8_3_12 : pj (regOf Try.f8 3) 12 = some (some 10, .assign (.tmp 22), 4, none) := by kernel_rfl
theorem p8_4_0 : pj (regOf Try.f8 4) 0 = some (some 6, .assign (.const (.int .i64 1)), 30, none) := by kernel_rfl
theorem p8_5_0 : pj (regOf Try.f8 5) 0 = some (some 24, .move (.tmp 2), 3, none) := by kernel_rfl
theorem p8_5_1 : pj (regOf Try.f8 5) 1 = some (some 25, .move (.tmp 0), 24, none) := by kernel_rfl
theorem p8_5_2 : pj (regOf Try.f8 5) 2 = some (some 26, .nilCheck (.tmp 25), 0, none) := by kernel_rfl
theorem p8_5_3 : pj (regOf Try.f8 5) 3 = some (some 27, .fieldAddr 29 (.tmp 26) 0, 0, none) := by kernel_rfl
theorem p8_5_4 : pj (regOf Try.f8 5) 4 = some (some 28, .fieldAddr 26 (.tmp 27) 0, 0, none) := by kernel_rfl
theorem p8_5_5 : pj (regOf Try.f8 5) 5 = some (some 29, .load 3 (.tmp 28), 3, none) := by kernel_rfl
theorem p8_5_6 : pj (regOf Try.f8 5) 6 = some (some 30, .binOp .sub 3 (.const (.int .i64 2305843009213693952)) (.tmp 29) 3, 3, none) := by kernel_rfl
theorem p8_5_7 : pj (regOf Try.f8 5) 7 = some (some 31, .binOp .gtr 3 (.tmp 24) (.tmp 30) 3, 4, none) := by kernel_rfl
theorem p8_5_8 : pj (regOf Try.f8 5) 8 = some (some 23, .assign (.tmp 31), 4, none) := by kernel_rfl
theorem p8_6_0 : pj (regOf Try.f8 6) 0 = some (some 6, .assign (.const (.int .i64 14)), 30, none) := by kernel_rfl
theorem p8_7_0 : pj (regOf Try.f8 7) 0 = some (some 32, .move (.tmp 0), 24, none) := by kernel_rfl
theorem p8_7_1 : pj (regOf Try.f8 7) 1 = some (some 33, .nilCheck (.tmp 32), 0, none) := by kernel_rfl
theorem p8_7_2 : pj (regOf Try.f8 7) 2 = some (some 34, .fieldAddr 29 (.tmp 33) 1, 0, none) := by kernel_rfl
theorem p8_7_3 : pj (regOf Try.f8 7) 3 = some (some 35, .load 27 (.tmp 34), 27, none) := by kernel_rfl
theorem p8_7_4 : pj (regOf Try.f8 7) 4 = some (some 36, .binOp .eql 27 (.tmp 35) (.const (.map none)) 27, 4, none) := by kernel_rfl
theorem ns8_9 : Region.noSelect (regOf Try.f8 9) = true := by kernel_rfl
theorem p8_9_0 : pj (regOf Try.f8 9) 0 = some (some 41, .move (.tmp 0), 24, none) := by kernel_rfl
theorem p8_9_1 : pj (regOf Try.f8 9) 1 = some (some 42, .nilCheck (.tmp 41), 0, none) := by kernel_rfl
theorem p8_9_2 : pj (regOf Try.f8 9) 2 = some (some 43, .fieldAddr 29 (.tmp 42) 1, 0, none) := by kernel_rfl
theorem p8_9_3 : pj (regOf Try.f8 9) 3 = some (some 44, .load 27 (.tmp 43), 27, none) := by kernel_rfl
theorem p8_9_4 : pj (regOf Try.f8 9) 4 = some (some 45, .move (.tmp 1), 3, none) := by kernel_rfl
theorem p8_9_5 : pj (regOf Try.f8 9) 5 = some (some 46, .move (.tmp 0), 24, none) := by kernel_rfl
theorem p8_9_6 : pj (regOf Try.f8 9) 6 = some (some 47, .nilCheck (.tmp 46), 0, none) := by kernel_rfl
theorem p8_9_7 : pj (regOf Try.f8 9) 7 = some (some 48, .fieldAddr 29 (.tmp 47) 0, 0, none) := by kernel_rfl
theorem p8_9_8 : pj (regOf Try.f8 9) 8 = some (some 49, .fieldAddr 26 (.tmp 48) 0, 0, none) := by kernel_rfl
theorem p8_9_9 : pj (regOf Try.f8 9) 9 = some (some 50, .load 3 (.tmp 49), 3, none) := by kernel_rfl
theorem p8_9_10 : pj (regOf Try.f8 9) 10 = some (some 51, .move (.tmp 2), 3, none) := by kernel_rfl
theorem p8_9_11 : pj (regOf Try.f8 9) 11 = some (some 52, .binOp .add 3 (.tmp 50) (.tmp 51) 3, 3, none) := by kernel_rfl
theorem p8_9_12 : pj (regOf Try.f8 9) 12 = some (none, .mapUpdate 27 (.tmp 44) (.tmp 45) (.tmp 52), 0, none) := by kernel_rfl
theorem p8_10_0 : pj (regOf Try.f8 10) 0 = some (some 6, .assign (.const (.int .i64 0)), 30, none) := by kernel_rfl
set_option maxHeartbeats 4000000 in
theorem set_map (g gm ck : Nat) (es : Array MapEntry) (l : Wp.LW) (now : Int) (x n : Int) (w : World) (hnow : 0 ≤ now ∧ now ≤ 2305843009213693952) (hg : w.heap[g]? = some (.cells #[.int .i64 now, .map (some gm)] 29 (0, 0))) (hm : w.heap[gm]? = some (.map es ck)) (hF : MapI (Value.int .i64) es ck l) (hne : g ≠ gm) : Calls Try.prog 8 #[.pointer (some ⟨g, 0, none⟩), .int .i64 x, .int .i64 n] w fun e w' => ∃ es' ck', e = .returned (.int .i64 (codeW now x n)) ∧ MapI (Value.int .i64) es' ck' (setW l now x n) ∧ w'.heap[gm]? = some (.map es' ck') ∧ Kp w w' (fun k => k = gm) := by
  have K_0 := Kp.refl w (fun k => k = gm)
  have B_g := hg
  have B_gm := hm
  have n_g_gm := hne
  refine enter (args := [Value.pointer (some ⟨g, 0, none⟩), Value.int .i64 x, Value.int .i64 n]) (n := 53) Try.func8 body8 rfl rfl rfl ?_
  intro a hE
  refine c_reg R8_0_l ?_
  refine q0 p8_0_0 hE (st_assign rfl) ?_
  clear hE a; intro a hE
  refine p_nil ?_
  refine x_norm ?_
  refine wp_seq ?_
  refine wp_block ?_
  refine c_reg R8_1_l ?_
  refine q0 p8_1_0 hE (st_move rfl) ?_
  clear hE a; intro a hE
  refine q0 p8_1_1 hE (st_eqlP (b := false) tP24 rfl rfl rfl) ?_
  clear hE a; intro a hE
  refine q0 p8_1_2 hE (st_assign rfl) ?_
  clear hE a; intro a hE
  refine p_nil ?_
  refine x_norm ?_
  refine c_cond (t := false) hE rfl ?_
  rcases Decidable.em (seqB x = true) with hV | hV
  ·
    have hxb : 0 ≤ x ∧ x < 256 := of_decide_eq_true hV
    rcases Decidable.em (n < 1) with hN1 | hN1
    ·
      refine c_reg R8_3_l ?_
      refine q0 p8_3_0 hE (st_move rfl) ?_
      clear hE a; intro a hE
      refine p_cons (s_row (xs := [(0, Operand.tmp 11)]) (vs := [(0, Value.int .i64 x)]) (cs := #[Value.int .i64 x]) p8_3_1 hE wn_none rfl Try.underlying35 rfl (by kernel_rfl) ?_)
      clear hE a; intro g1 w2 z3 B_g1 hk a hE
      have n_g_g1 : g ≠ g1 := ne_new B_g z3
      have n_gm_g1 : gm ≠ g1 := ne_new B_gm z3
      have z_0_g1 := Nat.le_trans K_0.kept.1 z3
      replace B_g := kp_blk B_g hk (fun h => h)
      replace B_gm := kp_blk B_gm hk (fun h => h)
      replace K_0 := K_0.then_ hk (fun _ h => h.elim)
      clear hk
      refine p_cons (s_call (xs := [Operand.const (Value.int IntKind.i64 1), Operand.tmp 12]) (args := [Value.int .i64 1, Value.slice (some ⟨g1, 0, none⟩) 1 1]) p8_3_2 hE wn_none rfl rfl Try.func32 cl32 (fits1 g1 x true hV _ B_g1) ?_)
      rintro e w4 ⟨rfl, hk⟩
      replace B_g := kp_blk B_g hk (fun h => h)
      replace B_gm := kp_blk B_gm hk (fun h => h)
      replace B_g1 := kp_blk B_g1 hk (fun h => h)
      replace K_0 := K_0.then_ hk (fun _ h => h.elim)
      refine ⟨_, rfl, ?_⟩
      clear hE a; intro a hE
      refine q0 p8_3_3 hE (st_not rfl rfl) ?_
      clear hE a; intro a hE
      refine q0 p8_3_4 hE (st_move rfl) ?_
      clear hE a; intro a hE
      refine p_cons (s_still p8_3_5 hE (wn_some g8_3_4 rfl rfl) rfl (st_move rfl) ?_)
      clear hE a; intro a hE
      refine p_cons (s_still p8_3_6 hE (wn_some g8_3_4 rfl rfl) rfl (st_lss (b := true) rfl rfl (decide_eq_true hN1)) ?_)
      clear hE a; intro a hE
      refine q0 p8_3_7 hE (st_pick rfl rfl) ?_
      clear hE a; intro a hE
      refine q0 p8_3_8 hE (st_move rfl) ?_
      clear hE a; intro a hE
      refine p_cons (s_skip p8_3_9 hE (wn_some g8_3_8 rfl rfl) rfl ?_)
      clear hE a; intro a hE
      refine p_cons (s_skip p8_3_10 hE (wn_some g8_3_8 rfl rfl) rfl ?_)
      clear hE a; intro a hE
      refine q0 p8_3_11 hE (st_pick rfl rfl) ?_
      clear hE a; intro a hE
      refine q0 p8_3_12 hE (st_assign rfl) ?_
      clear hE a; intro a hE
      refine p_nil ?_
      refine x_norm ?_
      refine c_cond (t := true) hE rfl ?_
      refine c_reg R8_4_l ?_
      refine q0 p8_4_0 hE (st_assign rfl) ?_
      clear hE a; intro a hE
      refine p_nil ?_
      refine x_norm ?_
      refine wp_ret ?_
      refine x_retB ?_
      refine x_ret ?_
      refine ret_one (v := Value.int .i64 1) rfl hE (.tmp rfl .nil) ?_
      have hc9 : codeW now x n = 1 := by unfold codeW; rw [if_neg (fun q => by omega)]
      exact ⟨es, ck, by rw [hc9], by unfold setW; rw [hc9]; exact hF, B_gm, K_0⟩
    ·
      rcases Decidable.em (1099511627776 < n) with hN2 | hN2
      ·
        refine c_reg R8_3_l ?_
        refine q0 p8_3_0 hE (st_move rfl) ?_
        clear hE a; intro a hE
        refine p_cons (s_row (xs := [(0, Operand.tmp 11)]) (vs := [(0, Value.int .i64 x)]) (cs := #[Value.int .i64 x]) p8_3_1 hE wn_none rfl Try.underlying35 rfl (by kernel_rfl) ?_)
        clear hE a; intro g5 w6 z7 B_g5 hk a hE
        have n_g_g5 : g ≠ g5 := ne_new B_g z7
        have n_gm_g5 : gm ≠ g5 := ne_new B_gm z7
        have z_0_g5 := Nat.le_trans K_0.kept.1 z7
        replace B_g := kp_blk B_g hk (fun h => h)
        replace B_gm := kp_blk B_gm hk (fun h => h)
        replace K_0 := K_0.then_ hk (fun _ h => h.elim)
        clear hk
        refine p_cons (s_call (xs := [Operand.const (Value.int IntKind.i64 1), Operand.tmp 12]) (args := [Value.int .i64 1, Value.slice (some ⟨g5, 0, none⟩) 1 1]) p8_3_2 hE wn_none rfl rfl Try.func32 cl32 (fits1 g5 x true hV _ B_g5) ?_)
        rintro e w8 ⟨rfl, hk⟩
        replace B_g := kp_blk B_g hk (fun h => h)
        replace B_gm := kp_blk B_gm hk (fun h => h)
        replace B_g5 := kp_blk B_g5 hk (fun h => h)
        replace K_0 := K_0.then_ hk (fun _ h => h.elim)
        refine ⟨_, rfl, ?_⟩
        clear hE a; intro a hE
        refine q0 p8_3_3 hE (st_not rfl rfl) ?_
        clear hE a; intro a hE
        refine q0 p8_3_4 hE (st_move rfl) ?_
        clear hE a; intro a hE
        refine p_cons (s_still p8_3_5 hE (wn_some g8_3_4 rfl rfl) rfl (st_move rfl) ?_)
        clear hE a; intro a hE
        refine p_cons (s_still p8_3_6 hE (wn_some g8_3_4 rfl rfl) rfl (st_lss (b := false) rfl rfl (decide_eq_false hN1)) ?_)
        clear hE a; intro a hE
        refine q0 p8_3_7 hE (st_pick rfl rfl) ?_
        clear hE a; intro a hE
        refine q0 p8_3_8 hE (st_move rfl) ?_
        clear hE a; intro a hE
        refine p_cons (s_still p8_3_9 hE (wn_some g8_3_8 rfl rfl) rfl (st_move rfl) ?_)
        clear hE a; intro a hE
        refine p_cons (s_still p8_3_10 hE (wn_some g8_3_8 rfl rfl) rfl (st_gtr (b := true) rfl rfl (decide_eq_true hN2)) ?_)
        clear hE a; intro a hE
        refine q0 p8_3_11 hE (st_pick rfl rfl) ?_
        clear hE a; intro a hE
        refine q0 p8_3_12 hE (st_assign rfl) ?_
        clear hE a; intro a hE
        refine p_nil ?_
        refine x_norm ?_
        refine c_cond (t := true) hE rfl ?_
        refine c_reg R8_4_l ?_
        refine q0 p8_4_0 hE (st_assign rfl) ?_
        clear hE a; intro a hE
        refine p_nil ?_
        refine x_norm ?_
        refine wp_ret ?_
        refine x_retB ?_
        refine x_ret ?_
        refine ret_one (v := Value.int .i64 1) rfl hE (.tmp rfl .nil) ?_
        have hc9 : codeW now x n = 1 := by unfold codeW; rw [if_neg (fun q => by omega)]
        exact ⟨es, ck, by rw [hc9], by unfold setW; rw [hc9]; exact hF, B_gm, K_0⟩
      ·
        refine c_reg R8_3_l ?_
        refine q0 p8_3_0 hE (st_move rfl) ?_
        clear hE a; intro a hE
        refine p_cons (s_row (xs := [(0, Operand.tmp 11)]) (vs := [(0, Value.int .i64 x)]) (cs := #[Value.int .i64 x]) p8_3_1 hE wn_none rfl Try.underlying35 rfl (by kernel_rfl) ?_)
        clear hE a; intro g9 w10 z11 B_g9 hk a hE
        have n_g_g9 : g ≠ g9 := ne_new B_g z11
        have n_gm_g9 : gm ≠ g9 := ne_new B_gm z11
        have z_0_g9 := Nat.le_trans K_0.kept.1 z11
        replace B_g := kp_blk B_g hk (fun h => h)
        replace B_gm := kp_blk B_gm hk (fun h => h)
        replace K_0 := K_0.then_ hk (fun _ h => h.elim)
        clear hk
        refine p_cons (s_call (xs := [Operand.const (Value.int IntKind.i64 1), Operand.tmp 12]) (args := [Value.int .i64 1, Value.slice (some ⟨g9, 0, none⟩) 1 1]) p8_3_2 hE wn_none rfl rfl Try.func32 cl32 (fits1 g9 x true hV _ B_g9) ?_)
        rintro e w12 ⟨rfl, hk⟩
        replace B_g := kp_blk B_g hk (fun h => h)
        replace B_gm := kp_blk B_gm hk (fun h => h)
        replace B_g9 := kp_blk B_g9 hk (fun h => h)
        replace K_0 := K_0.then_ hk (fun _ h => h.elim)
        refine ⟨_, rfl, ?_⟩
        clear hE a; intro a hE
        refine q0 p8_3_3 hE (st_not rfl rfl) ?_
        clear hE a; intro a hE
        refine q0 p8_3_4 hE (st_move rfl) ?_
        clear hE a; intro a hE
        refine p_cons (s_still p8_3_5 hE (wn_some g8_3_4 rfl rfl) rfl (st_move rfl) ?_)
        clear hE a; intro a hE
        refine p_cons (s_still p8_3_6 hE (wn_some g8_3_4 rfl rfl) rfl (st_lss (b := false) rfl rfl (decide_eq_false hN1)) ?_)
        clear hE a; intro a hE
        refine q0 p8_3_7 hE (st_pick rfl rfl) ?_
        clear hE a; intro a hE
        refine q0 p8_3_8 hE (st_move rfl) ?_
        clear hE a; intro a hE
        refine p_cons (s_still p8_3_9 hE (wn_some g8_3_8 rfl rfl) rfl (st_move rfl) ?_)
        clear hE a; intro a hE
        refine p_cons (s_still p8_3_10 hE (wn_some g8_3_8 rfl rfl) rfl (st_gtr (b := false) rfl rfl (decide_eq_false hN2)) ?_)
        clear hE a; intro a hE
        refine q0 p8_3_11 hE (st_pick rfl rfl) ?_
        clear hE a; intro a hE
        refine q0 p8_3_12 hE (st_assign rfl) ?_
        clear hE a; intro a hE
        refine p_nil ?_
        refine x_norm ?_
        refine c_cond (t := false) hE rfl ?_
        rcases Decidable.em (2305843009213693952 - now < n) with hOV | hOV
        ·
          refine c_reg R8_5_l ?_
          refine q0 p8_5_0 hE (st_move rfl) ?_
          clear hE a; intro a hE
          refine q0 p8_5_1 hE (st_move rfl) ?_
          clear hE a; intro a hE
          refine q0 p8_5_2 hE (st_nil rfl) ?_
          clear hE a; intro a hE
          refine q0 p8_5_3 hE (st_fieldAddr Try.underlying29 rfl tS26 rfl rfl) ?_
          clear hE a; intro a hE
          refine q0 p8_5_4 hE (st_fieldAddr Try.underlying26 rfl tS3 rfl rfl) ?_
          clear hE a; intro a hE
          refine q0 p8_5_5 hE (st_load1 tA3 rfl ((blk_cell B_g 0).trans rfl)) ?_
          clear hE a; intro a hE
          refine q0 p8_5_6 hE (st_sub (z := 2305843009213693952 - now) rfl rfl (wr_i64 _ (by omega) (by omega))) ?_
          clear hE a; intro a hE
          refine q0 p8_5_7 hE (st_gtr (b := true) rfl rfl (decide_eq_true hOV)) ?_
          clear hE a; intro a hE
          refine q0 p8_5_8 hE (st_assign rfl) ?_
          clear hE a; intro a hE
          refine p_nil ?_
          refine x_norm ?_
          refine c_cond (t := true) hE rfl ?_
          refine c_reg R8_6_l ?_
          refine q0 p8_6_0 hE (st_assign rfl) ?_
          clear hE a; intro a hE
          refine p_nil ?_
          refine x_norm ?_
          refine wp_ret ?_
          refine x_retB ?_
          refine x_ret ?_
          refine ret_one (v := Value.int .i64 14) rfl hE (.tmp rfl .nil) ?_
          have hc9 : codeW now x n = 14 := by unfold codeW; rw [if_pos ⟨hV, by omega, by omega⟩, if_pos hOV]
          exact ⟨es, ck, by rw [hc9], by unfold setW; rw [hc9]; exact hF, B_gm, K_0⟩
        ·
          refine c_reg R8_5_l ?_
          refine q0 p8_5_0 hE (st_move rfl) ?_
          clear hE a; intro a hE
          refine q0 p8_5_1 hE (st_move rfl) ?_
          clear hE a; intro a hE
          refine q0 p8_5_2 hE (st_nil rfl) ?_
          clear hE a; intro a hE
          refine q0 p8_5_3 hE (st_fieldAddr Try.underlying29 rfl tS26 rfl rfl) ?_
          clear hE a; intro a hE
          refine q0 p8_5_4 hE (st_fieldAddr Try.underlying26 rfl tS3 rfl rfl) ?_
          clear hE a; intro a hE
          refine q0 p8_5_5 hE (st_load1 tA3 rfl ((blk_cell B_g 0).trans rfl)) ?_
          clear hE a; intro a hE
          refine q0 p8_5_6 hE (st_sub (z := 2305843009213693952 - now) rfl rfl (wr_i64 _ (by omega) (by omega))) ?_
          clear hE a; intro a hE
          refine q0 p8_5_7 hE (st_gtr (b := false) rfl rfl (decide_eq_false hOV)) ?_
          clear hE a; intro a hE
          refine q0 p8_5_8 hE (st_assign rfl) ?_
          clear hE a; intro a hE
          refine p_nil ?_
          refine x_norm ?_
          refine c_cond (t := false) hE rfl ?_
          refine wp_skip ?_
          refine x_normB ?_
          refine x_norm ?_
          refine wp_seq ?_
          refine c_reg R8_7_l ?_
          refine q0 p8_7_0 hE (st_move rfl) ?_
          clear hE a; intro a hE
          refine q0 p8_7_1 hE (st_nil rfl) ?_
          clear hE a; intro a hE
          refine q0 p8_7_2 hE (st_fieldAddr Try.underlying29 rfl tS27 rfl rfl) ?_
          clear hE a; intro a hE
          refine q0 p8_7_3 hE (st_load1 tA27 rfl ((blk_cell B_g 1).trans rfl)) ?_
          clear hE a; intro a hE
          refine q0 p8_7_4 hE (st_eqlM (b := false) Try.underlying27 rfl rfl rfl) ?_
          clear hE a; intro a hE
          refine p_nil ?_
          refine x_norm ?_
          refine c_cond (t := false) hE rfl ?_
          refine wp_skip ?_
          refine x_norm ?_
          refine c_drawS (S := fun W => W.heap[g]? = some (.cells #[Value.int .i64 now, Value.map (some gm)] 29 (0, 0)) ∧ True) rfl rfl (listed := #[false, false, false, false, false, false, false, false, false, false, false, false, false]) rfl ?_
          intro w13 hh hk
          replace B_g := kp_blk B_g hk (fun h => h)
          replace B_gm := kp_blk B_gm hk (fun h => h)
          replace B_g9 := kp_blk B_g9 hk (fun h => h)
          replace K_0 := K_0.then_ hk (fun _ h => h.elim)
          clear hh hk
          refine d_take (v := Value.pointer (some ⟨g, 0, none⟩)) p8_9_0 ns8_9 (by kernel_rfl) (by kernel_rfl) (fun _ _ _ h => h) hE wn_none rfl ⟨B_g, trivial⟩ (fun W hS => (st_move rfl)) rfl ?_
          clear hE a; intro a hE
          refine d_take (v := Value.pointer (some ⟨g, 0, none⟩)) p8_9_1 ns8_9 (by kernel_rfl) (by kernel_rfl) (fun _ _ _ h => h) hE wn_none rfl ⟨B_g, trivial⟩ (fun W hS => (st_nil rfl)) rfl ?_
          clear hE a; intro a hE
          refine d_take (v := Value.pointer (some ⟨g, 1, none⟩)) p8_9_2 ns8_9 (by kernel_rfl) (by kernel_rfl) (fun _ _ _ h => h) hE wn_none rfl ⟨B_g, trivial⟩ (fun W hS => (st_fieldAddr Try.underlying29 rfl tS27 rfl rfl)) rfl ?_
          clear hE a; intro a hE
          refine d_take (v := Value.map (some gm)) p8_9_3 ns8_9 (by kernel_rfl) (by kernel_rfl) (fun _ _ _ h => h) hE wn_none rfl ⟨B_g, trivial⟩ (fun W hS => (st_load1 tA27 rfl ((blk_cell hS.1 1).trans rfl))) rfl ?_
          clear hE a; intro a hE
          refine d_take (v := Value.int .i64 x) p8_9_4 ns8_9 (by kernel_rfl) (by kernel_rfl) (fun _ _ _ h => h) hE wn_none rfl ⟨B_g, trivial⟩ (fun W hS => (st_move rfl)) rfl ?_
          clear hE a; intro a hE
          refine d_take (v := Value.pointer (some ⟨g, 0, none⟩)) p8_9_5 ns8_9 (by kernel_rfl) (by kernel_rfl) (fun _ _ _ h => h) hE wn_none rfl ⟨B_g, trivial⟩ (fun W hS => (st_move rfl)) rfl ?_
          clear hE a; intro a hE
          refine d_take (v := Value.pointer (some ⟨g, 0, none⟩)) p8_9_6 ns8_9 (by kernel_rfl) (by kernel_rfl) (fun _ _ _ h => h) hE wn_none rfl ⟨B_g, trivial⟩ (fun W hS => (st_nil rfl)) rfl ?_
          clear hE a; intro a hE
          refine d_take (v := Value.pointer (some ⟨g, 0, none⟩)) p8_9_7 ns8_9 (by kernel_rfl) (by kernel_rfl) (fun _ _ _ h => h) hE wn_none rfl ⟨B_g, trivial⟩ (fun W hS => (st_fieldAddr Try.underlying29 rfl tS26 rfl rfl)) rfl ?_
          clear hE a; intro a hE
          refine d_take (v := Value.pointer (some ⟨g, 0, none⟩)) p8_9_8 ns8_9 (by kernel_rfl) (by kernel_rfl) (fun _ _ _ h => h) hE wn_none rfl ⟨B_g, trivial⟩ (fun W hS => (st_fieldAddr Try.underlying26 rfl tS3 rfl rfl)) rfl ?_
          clear hE a; intro a hE
          refine d_take (v := Value.int .i64 now) p8_9_9 ns8_9 (by kernel_rfl) (by kernel_rfl) (fun _ _ _ h => h) hE wn_none rfl ⟨B_g, trivial⟩ (fun W hS => (st_load1 tA3 rfl ((blk_cell hS.1 0).trans rfl))) rfl ?_
          clear hE a; intro a hE
          refine d_take (v := Value.int .i64 n) p8_9_10 ns8_9 (by kernel_rfl) (by kernel_rfl) (fun _ _ _ h => h) hE wn_none rfl ⟨B_g, trivial⟩ (fun W hS => (st_move rfl)) rfl ?_
          clear hE a; intro a hE
          refine d_take (v := Value.int .i64 (now + n)) p8_9_11 ns8_9 (by kernel_rfl) (by kernel_rfl) (fun _ _ _ h => h) hE wn_none rfl ⟨B_g, trivial⟩ (fun W hS => (st_add (z := now + n) rfl rfl (wr_i64 _ (by omega) (by omega)))) rfl ?_
          clear hE a; intro a hE
          refine d_one (by kernel_rfl) rfl (Mi.s_putI (u := now + n) p8_9_12 hE wn_none Try.underlying27 Try.underlying3 rfl rfl rfl rfl (wf64 (by omega) (by omega)) hF B_gm ?_)
          intro esm15 ckm15 w14 MF_m15 B_gm' hk
          replace B_g := kp_blk B_g hk n_g_gm
          replace B_g9 := kp_blk B_g9 hk (Ne.symm n_gm_g9)
          replace K_0 := K_0.then_ hk (fun k h => by rw [show k = gm from h]; exact Or.inl rfl)
          replace B_gm := B_gm'
          clear hk
          refine ⟨⟨B_g, trivial⟩, ?_⟩
          refine d_end (by kernel_rfl) ?_
          refine x_norm ?_
          refine c_reg R8_10_l ?_
          refine q0 p8_10_0 hE (st_assign rfl) ?_
          clear hE a; intro a hE
          refine p_nil ?_
          refine x_norm ?_
          refine wp_ret ?_
          refine ret_one (v := Value.int .i64 0) rfl hE (.tmp rfl .nil) ?_
          have hc9 : codeW now x n = 0 := by unfold codeW; rw [if_pos ⟨hV, by omega, by omega⟩, if_neg hOV]
          exact ⟨esm15, ckm15, by rw [hc9], by unfold setW; rw [hc9]; exact MF_m15, B_gm, K_0⟩
  ·
    refine c_reg R8_3_l ?_
    refine q0 p8_3_0 hE (st_move rfl) ?_
    clear hE a; intro a hE
    refine p_cons (s_row (xs := [(0, Operand.tmp 11)]) (vs := [(0, Value.int .i64 x)]) (cs := #[Value.int .i64 x]) p8_3_1 hE wn_none rfl Try.underlying35 rfl (by kernel_rfl) ?_)
    clear hE a; intro g16 w17 z18 B_g16 hk a hE
    have n_g_g16 : g ≠ g16 := ne_new B_g z18
    have n_gm_g16 : gm ≠ g16 := ne_new B_gm z18
    have z_0_g16 := Nat.le_trans K_0.kept.1 z18
    replace B_g := kp_blk B_g hk (fun h => h)
    replace B_gm := kp_blk B_gm hk (fun h => h)
    replace K_0 := K_0.then_ hk (fun _ h => h.elim)
    clear hk
    refine p_cons (s_call (xs := [Operand.const (Value.int IntKind.i64 1), Operand.tmp 12]) (args := [Value.int .i64 1, Value.slice (some ⟨g16, 0, none⟩) 1 1]) p8_3_2 hE wn_none rfl rfl Try.func32 cl32 (fits1 g16 x false (by simpa using hV) _ B_g16) ?_)
    rintro e w19 ⟨rfl, hk⟩
    replace B_g := kp_blk B_g hk (fun h => h)
    replace B_gm := kp_blk B_gm hk (fun h => h)
    replace B_g16 := kp_blk B_g16 hk (fun h => h)
    replace K_0 := K_0.then_ hk (fun _ h => h.elim)
    refine ⟨_, rfl, ?_⟩
    clear hE a; intro a hE
    refine q0 p8_3_3 hE (st_not rfl rfl) ?_
    clear hE a; intro a hE
    refine q0 p8_3_4 hE (st_move rfl) ?_
    clear hE a; intro a hE
    refine p_cons (s_skip p8_3_5 hE (wn_some g8_3_4 rfl rfl) rfl ?_)
    clear hE a; intro a hE
    refine p_cons (s_skip p8_3_6 hE (wn_some g8_3_4 rfl rfl) rfl ?_)
    clear hE a; intro a hE
    refine q0 p8_3_7 hE (st_pick rfl rfl) ?_
    clear hE a; intro a hE
    refine q0 p8_3_8 hE (st_move rfl) ?_
    clear hE a; intro a hE
    refine p_cons (s_skip p8_3_9 hE (wn_some g8_3_8 rfl rfl) rfl ?_)
    clear hE a; intro a hE
    refine p_cons (s_skip p8_3_10 hE (wn_some g8_3_8 rfl rfl) rfl ?_)
    clear hE a; intro a hE
    refine q0 p8_3_11 hE (st_pick rfl rfl) ?_
    clear hE a; intro a hE
    refine q0 p8_3_12 hE (st_assign rfl) ?_
    clear hE a; intro a hE
    refine p_nil ?_
    refine x_norm ?_
    refine c_cond (t := true) hE rfl ?_
    refine c_reg R8_4_l ?_
    refine q0 p8_4_0 hE (st_assign rfl) ?_
    clear hE a; intro a hE
    refine p_nil ?_
    refine x_norm ?_
    refine wp_ret ?_
    refine x_retB ?_
    refine x_ret ?_
    refine ret_one (v := Value.int .i64 1) rfl hE (.tmp rfl .nil) ?_
    have hc9 : codeW now x n = 1 := by unfold codeW; rw [if_neg (fun q => hV q.1)]
    exact ⟨es, ck, by rw [hc9], by unfold setW; rw [hc9]; exact hF, B_gm, K_0⟩
theorem p8_8_0 : pj (regOf Try.f8 8) 0 = some (some 37, .move (.tmp 0), 24, none) := by kernel_rfl
theorem p8_8_1 : pj (regOf Try.f8 8) 1 = some (some 38, .makeMap 27 none, 27, none) := by kernel_rfl
theorem p8_8_2 : pj (regOf Try.f8 8) 2 = some (some 39, .nilCheck (.tmp 37), 0, none) := by kernel_rfl
theorem p8_8_3 : pj (regOf Try.f8 8) 3 = some (some 40, .fieldAddr 29 (.tmp 39) 1, 0, none) := by kernel_rfl
theorem p8_8_4 : pj (regOf Try.f8 8) 4 = some (none, .store 27 (.tmp 40) (.tmp 38), 0, none) := by kernel_rfl
set_option maxHeartbeats 4000000 in
theorem set_nil (g : Nat) (now : Int) (x n : Int) (w : World) (hnow : 0 ≤ now ∧ now ≤ 2305843009213693952) (hg : w.heap[g]? = some (.cells #[.int .i64 now, .map none] 29 (0, 0))) : Calls Try.prog 8 #[.pointer (some ⟨g, 0, none⟩), .int .i64 x, .int .i64 n] w fun e w' => e = .returned (.int .i64 (codeW now x n)) ∧ ((codeW now x n ≠ 0 ∧ w'.heap[g]? = some (.cells #[.int .i64 now, .map none] 29 (0, 0)) ∧ Kp w w' (fun k => k = g)) ∨ ∃ gm es ck, codeW now x n = 0 ∧ w.heap.size ≤ gm ∧ g ≠ gm ∧ w'.heap[g]? = some (.cells #[.int .i64 now, .map (some gm)] 29 (0, 0)) ∧ w'.heap[gm]? = some (.map es ck) ∧ MapI (Value.int .i64) es ck (putI [] x (now + n)) ∧ Kp w w' (fun k => k = g)) := by
  have K_0 := Kp.refl w (fun k => k = g)
  have B_g := hg
  refine enter (args := [Value.pointer (some ⟨g, 0, none⟩), Value.int .i64 x, Value.int .i64 n]) (n := 53) Try.func8 body8 rfl rfl rfl ?_
  intro a hE
  refine c_reg R8_0_l ?_
  refine q0 p8_0_0 hE (st_assign rfl) ?_
  clear hE a; intro a hE
  refine p_nil ?_
  refine x_norm ?_
  refine wp_seq ?_
  refine wp_block ?_
  refine c_reg R8_1_l ?_
  refine q0 p8_1_0 hE (st_move rfl) ?_
  clear hE a; intro a hE
  refine q0 p8_1_1 hE (st_eqlP (b := false) tP24 rfl rfl rfl) ?_
  clear hE a; intro a hE
  refine q0 p8_1_2 hE (st_assign rfl) ?_
  clear hE a; intro a hE
  refine p_nil ?_
  refine x_norm ?_
  refine c_cond (t := false) hE rfl ?_
  rcases Decidable.em (seqB x = true) with hV | hV
  ·
    have hxb : 0 ≤ x ∧ x < 256 := of_decide_eq_true hV
    rcases Decidable.em (n < 1) with hN1 | hN1
    ·
      refine c_reg R8_3_l ?_
      refine q0 p8_3_0 hE (st_move rfl) ?_
      clear hE a; intro a hE
      refine p_cons (s_row (xs := [(0, Operand.tmp 11)]) (vs := [(0, Value.int .i64 x)]) (cs := #[Value.int .i64 x]) p8_3_1 hE wn_none rfl Try.underlying35 rfl (by kernel_rfl) ?_)
      clear hE a; intro g1 w2 z3 B_g1 hk a hE
      have n_g_g1 : g ≠ g1 := ne_new B_g z3
      have z_0_g1 := Nat.le_trans K_0.kept.1 z3
      replace B_g := kp_blk B_g hk (fun h => h)
      replace K_0 := K_0.then_ hk (fun _ h => h.elim)
      clear hk
      refine p_cons (s_call (xs := [Operand.const (Value.int IntKind.i64 1), Operand.tmp 12]) (args := [Value.int .i64 1, Value.slice (some ⟨g1, 0, none⟩) 1 1]) p8_3_2 hE wn_none rfl rfl Try.func32 cl32 (fits1 g1 x true hV _ B_g1) ?_)
      rintro e w4 ⟨rfl, hk⟩
      replace B_g := kp_blk B_g hk (fun h => h)
      replace B_g1 := kp_blk B_g1 hk (fun h => h)
      replace K_0 := K_0.then_ hk (fun _ h => h.elim)
      refine ⟨_, rfl, ?_⟩
      clear hE a; intro a hE
      refine q0 p8_3_3 hE (st_not rfl rfl) ?_
      clear hE a; intro a hE
      refine q0 p8_3_4 hE (st_move rfl) ?_
      clear hE a; intro a hE
      refine p_cons (s_still p8_3_5 hE (wn_some g8_3_4 rfl rfl) rfl (st_move rfl) ?_)
      clear hE a; intro a hE
      refine p_cons (s_still p8_3_6 hE (wn_some g8_3_4 rfl rfl) rfl (st_lss (b := true) rfl rfl (decide_eq_true hN1)) ?_)
      clear hE a; intro a hE
      refine q0 p8_3_7 hE (st_pick rfl rfl) ?_
      clear hE a; intro a hE
      refine q0 p8_3_8 hE (st_move rfl) ?_
      clear hE a; intro a hE
      refine p_cons (s_skip p8_3_9 hE (wn_some g8_3_8 rfl rfl) rfl ?_)
      clear hE a; intro a hE
      refine p_cons (s_skip p8_3_10 hE (wn_some g8_3_8 rfl rfl) rfl ?_)
      clear hE a; intro a hE
      refine q0 p8_3_11 hE (st_pick rfl rfl) ?_
      clear hE a; intro a hE
      refine q0 p8_3_12 hE (st_assign rfl) ?_
      clear hE a; intro a hE
      refine p_nil ?_
      refine x_norm ?_
      refine c_cond (t := true) hE rfl ?_
      refine c_reg R8_4_l ?_
      refine q0 p8_4_0 hE (st_assign rfl) ?_
      clear hE a; intro a hE
      refine p_nil ?_
      refine x_norm ?_
      refine wp_ret ?_
      refine x_retB ?_
      refine x_ret ?_
      refine ret_one (v := Value.int .i64 1) rfl hE (.tmp rfl .nil) ?_
      have hc9 : codeW now x n = 1 := by unfold codeW; rw [if_neg (fun q => by omega)]
      exact ⟨by rw [hc9], .inl ⟨by rw [hc9]; decide, B_g, K_0⟩⟩
    ·
      rcases Decidable.em (1099511627776 < n) with hN2 | hN2
      ·
        refine c_reg R8_3_l ?_
        refine q0 p8_3_0 hE (st_move rfl) ?_
        clear hE a; intro a hE
        refine p_cons (s_row (xs := [(0, Operand.tmp 11)]) (vs := [(0, Value.int .i64 x)]) (cs := #[Value.int .i64 x]) p8_3_1 hE wn_none rfl Try.underlying35 rfl (by kernel_rfl) ?_)
        clear hE a; intro g5 w6 z7 B_g5 hk a hE
        have n_g_g5 : g ≠ g5 := ne_new B_g z7
        have z_0_g5 := Nat.le_trans K_0.kept.1 z7
        replace B_g := kp_blk B_g hk (fun h => h)
        replace K_0 := K_0.then_ hk (fun _ h => h.elim)
        clear hk
        refine p_cons (s_call (xs := [Operand.const (Value.int IntKind.i64 1), Operand.tmp 12]) (args := [Value.int .i64 1, Value.slice (some ⟨g5, 0, none⟩) 1 1]) p8_3_2 hE wn_none rfl rfl Try.func32 cl32 (fits1 g5 x true hV _ B_g5) ?_)
        rintro e w8 ⟨rfl, hk⟩
        replace B_g := kp_blk B_g hk (fun h => h)
        replace B_g5 := kp_blk B_g5 hk (fun h => h)
        replace K_0 := K_0.then_ hk (fun _ h => h.elim)
        refine ⟨_, rfl, ?_⟩
        clear hE a; intro a hE
        refine q0 p8_3_3 hE (st_not rfl rfl) ?_
        clear hE a; intro a hE
        refine q0 p8_3_4 hE (st_move rfl) ?_
        clear hE a; intro a hE
        refine p_cons (s_still p8_3_5 hE (wn_some g8_3_4 rfl rfl) rfl (st_move rfl) ?_)
        clear hE a; intro a hE
        refine p_cons (s_still p8_3_6 hE (wn_some g8_3_4 rfl rfl) rfl (st_lss (b := false) rfl rfl (decide_eq_false hN1)) ?_)
        clear hE a; intro a hE
        refine q0 p8_3_7 hE (st_pick rfl rfl) ?_
        clear hE a; intro a hE
        refine q0 p8_3_8 hE (st_move rfl) ?_
        clear hE a; intro a hE
        refine p_cons (s_still p8_3_9 hE (wn_some g8_3_8 rfl rfl) rfl (st_move rfl) ?_)
        clear hE a; intro a hE
        refine p_cons (s_still p8_3_10 hE (wn_some g8_3_8 rfl rfl) rfl (st_gtr (b := true) rfl rfl (decide_eq_true hN2)) ?_)
        clear hE a; intro a hE
        refine q0 p8_3_11 hE (st_pick rfl rfl) ?_
        clear hE a; intro a hE
        refine q0 p8_3_12 hE (st_assign rfl) ?_
        clear hE a; intro a hE
        refine p_nil ?_
        refine x_norm ?_
        refine c_cond (t := true) hE rfl ?_
        refine c_reg R8_4_l ?_
        refine q0 p8_4_0 hE (st_assign rfl) ?_
        clear hE a; intro a hE
        refine p_nil ?_
        refine x_norm ?_
        refine wp_ret ?_
        refine x_retB ?_
        refine x_ret ?_
        refine ret_one (v := Value.int .i64 1) rfl hE (.tmp rfl .nil) ?_
        have hc9 : codeW now x n = 1 := by unfold codeW; rw [if_neg (fun q => by omega)]
        exact ⟨by rw [hc9], .inl ⟨by rw [hc9]; decide, B_g, K_0⟩⟩
      ·
        refine c_reg R8_3_l ?_
        refine q0 p8_3_0 hE (st_move rfl) ?_
        clear hE a; intro a hE
        refine p_cons (s_row (xs := [(0, Operand.tmp 11)]) (vs := [(0, Value.int .i64 x)]) (cs := #[Value.int .i64 x]) p8_3_1 hE wn_none rfl Try.underlying35 rfl (by kernel_rfl) ?_)
        clear hE a; intro g9 w10 z11 B_g9 hk a hE
        have n_g_g9 : g ≠ g9 := ne_new B_g z11
        have z_0_g9 := Nat.le_trans K_0.kept.1 z11
        replace B_g := kp_blk B_g hk (fun h => h)
        replace K_0 := K_0.then_ hk (fun _ h => h.elim)
        clear hk
        refine p_cons (s_call (xs := [Operand.const (Value.int IntKind.i64 1), Operand.tmp 12]) (args := [Value.int .i64 1, Value.slice (some ⟨g9, 0, none⟩) 1 1]) p8_3_2 hE wn_none rfl rfl Try.func32 cl32 (fits1 g9 x true hV _ B_g9) ?_)
        rintro e w12 ⟨rfl, hk⟩
        replace B_g := kp_blk B_g hk (fun h => h)
        replace B_g9 := kp_blk B_g9 hk (fun h => h)
        replace K_0 := K_0.then_ hk (fun _ h => h.elim)
        refine ⟨_, rfl, ?_⟩
        clear hE a; intro a hE
        refine q0 p8_3_3 hE (st_not rfl rfl) ?_
        clear hE a; intro a hE
        refine q0 p8_3_4 hE (st_move rfl) ?_
        clear hE a; intro a hE
        refine p_cons (s_still p8_3_5 hE (wn_some g8_3_4 rfl rfl) rfl (st_move rfl) ?_)
        clear hE a; intro a hE
        refine p_cons (s_still p8_3_6 hE (wn_some g8_3_4 rfl rfl) rfl (st_lss (b := false) rfl rfl (decide_eq_false hN1)) ?_)
        clear hE a; intro a hE
        refine q0 p8_3_7 hE (st_pick rfl rfl) ?_
        clear hE a; intro a hE
        refine q0 p8_3_8 hE (st_move rfl) ?_
        clear hE a; intro a hE
        refine p_cons (s_still p8_3_9 hE (wn_some g8_3_8 rfl rfl) rfl (st_move rfl) ?_)
        clear hE a; intro a hE
        refine p_cons (s_still p8_3_10 hE (wn_some g8_3_8 rfl rfl) rfl (st_gtr (b := false) rfl rfl (decide_eq_false hN2)) ?_)
        clear hE a; intro a hE
        refine q0 p8_3_11 hE (st_pick rfl rfl) ?_
        clear hE a; intro a hE
        refine q0 p8_3_12 hE (st_assign rfl) ?_
        clear hE a; intro a hE
        refine p_nil ?_
        refine x_norm ?_
        refine c_cond (t := false) hE rfl ?_
        rcases Decidable.em (2305843009213693952 - now < n) with hOV | hOV
        ·
          refine c_reg R8_5_l ?_
          refine q0 p8_5_0 hE (st_move rfl) ?_
          clear hE a; intro a hE
          refine q0 p8_5_1 hE (st_move rfl) ?_
          clear hE a; intro a hE
          refine q0 p8_5_2 hE (st_nil rfl) ?_
          clear hE a; intro a hE
          refine q0 p8_5_3 hE (st_fieldAddr Try.underlying29 rfl tS26 rfl rfl) ?_
          clear hE a; intro a hE
          refine q0 p8_5_4 hE (st_fieldAddr Try.underlying26 rfl tS3 rfl rfl) ?_
          clear hE a; intro a hE
          refine q0 p8_5_5 hE (st_load1 tA3 rfl ((blk_cell B_g 0).trans rfl)) ?_
          clear hE a; intro a hE
          refine q0 p8_5_6 hE (st_sub (z := 2305843009213693952 - now) rfl rfl (wr_i64 _ (by omega) (by omega))) ?_
          clear hE a; intro a hE
          refine q0 p8_5_7 hE (st_gtr (b := true) rfl rfl (decide_eq_true hOV)) ?_
          clear hE a; intro a hE
          refine q0 p8_5_8 hE (st_assign rfl) ?_
          clear hE a; intro a hE
          refine p_nil ?_
          refine x_norm ?_
          refine c_cond (t := true) hE rfl ?_
          refine c_reg R8_6_l ?_
          refine q0 p8_6_0 hE (st_assign rfl) ?_
          clear hE a; intro a hE
          refine p_nil ?_
          refine x_norm ?_
          refine wp_ret ?_
          refine x_retB ?_
          refine x_ret ?_
          refine ret_one (v := Value.int .i64 14) rfl hE (.tmp rfl .nil) ?_
          have hc9 : codeW now x n = 14 := by unfold codeW; rw [if_pos ⟨hV, by omega, by omega⟩, if_pos hOV]
          exact ⟨by rw [hc9], .inl ⟨by rw [hc9]; decide, B_g, K_0⟩⟩
        ·
          refine c_reg R8_5_l ?_
          refine q0 p8_5_0 hE (st_move rfl) ?_
          clear hE a; intro a hE
          refine q0 p8_5_1 hE (st_move rfl) ?_
          clear hE a; intro a hE
          refine q0 p8_5_2 hE (st_nil rfl) ?_
          clear hE a; intro a hE
          refine q0 p8_5_3 hE (st_fieldAddr Try.underlying29 rfl tS26 rfl rfl) ?_
          clear hE a; intro a hE
          refine q0 p8_5_4 hE (st_fieldAddr Try.underlying26 rfl tS3 rfl rfl) ?_
          clear hE a; intro a hE
          refine q0 p8_5_5 hE (st_load1 tA3 rfl ((blk_cell B_g 0).trans rfl)) ?_
          clear hE a; intro a hE
          refine q0 p8_5_6 hE (st_sub (z := 2305843009213693952 - now) rfl rfl (wr_i64 _ (by omega) (by omega))) ?_
          clear hE a; intro a hE
          refine q0 p8_5_7 hE (st_gtr (b := false) rfl rfl (decide_eq_false hOV)) ?_
          clear hE a; intro a hE
          refine q0 p8_5_8 hE (st_assign rfl) ?_
          clear hE a; intro a hE
          refine p_nil ?_
          refine x_norm ?_
          refine c_cond (t := false) hE rfl ?_
          refine wp_skip ?_
          refine x_normB ?_
          refine x_norm ?_
          refine wp_seq ?_
          refine c_reg R8_7_l ?_
          refine q0 p8_7_0 hE (st_move rfl) ?_
          clear hE a; intro a hE
          refine q0 p8_7_1 hE (st_nil rfl) ?_
          clear hE a; intro a hE
          refine q0 p8_7_2 hE (st_fieldAddr Try.underlying29 rfl tS27 rfl rfl) ?_
          clear hE a; intro a hE
          refine q0 p8_7_3 hE (st_load1 tA27 rfl ((blk_cell B_g 1).trans rfl)) ?_
          clear hE a; intro a hE
          refine q0 p8_7_4 hE (st_eqlM (b := true) Try.underlying27 rfl rfl rfl) ?_
          clear hE a; intro a hE
          refine p_nil ?_
          refine x_norm ?_
          refine c_cond (t := true) hE rfl ?_
          refine c_regL R8_8_l ?_
          refine q0 p8_8_0 hE (st_move rfl) ?_
          clear hE a; intro a hE
          refine p_cons (Mi.s_makeMap p8_8_1 hE wn_none rfl ?_)
          clear hE a; intro g13 w14 z15 B_g13 hk a hE
          have n_g_g13 : g ≠ g13 := ne_new B_g z15
          have n_g9_g13 : g9 ≠ g13 := ne_new B_g9 z15
          have z_0_g13 := Nat.le_trans K_0.kept.1 z15
          replace B_g := kp_blk B_g hk (fun h => h)
          replace B_g9 := kp_blk B_g9 hk (fun h => h)
          replace K_0 := K_0.then_ hk (fun _ h => h.elim)
          clear hk
          refine q0 p8_8_2 hE (st_nil rfl) ?_
          clear hE a; intro a hE
          refine q0 p8_8_3 hE (st_fieldAddr Try.underlying29 rfl tS27 rfl rfl) ?_
          clear hE a; intro a hE
          refine p_cons (s_store (off := 1) (k := 1) (cs' := #[Value.int .i64 now, Value.map (some g13)]) p8_8_4 hE wn_none tS27 rfl rfl rfl rfl B_g (Nat.le_of_ble_eq_true rfl) rfl ?_)
          intro w16 B_g' hk
          replace B_g9 := kp_blk B_g9 hk (Ne.symm n_g_g9)
          replace B_g13 := kp_blk B_g13 hk (Ne.symm n_g_g13)
          replace K_0 := K_0.then_ hk (fun k h => by rw [show k = g from h]; exact Or.inl rfl)
          replace B_g := B_g'
          clear hk
          refine p_nil ?_
          refine x_norm ?_
          refine c_drawS (S := fun W => W.heap[g]? = some (.cells #[Value.int .i64 now, Value.map (some g13)] 29 (0, 0)) ∧ True) rfl rfl (listed := #[false, false, false, false, false, false, false, false, false, false, false, false, false]) rfl ?_
          intro w17 hh hk
          replace B_g := kp_blk B_g hk (fun h => h)
          replace B_g9 := kp_blk B_g9 hk (fun h => h)
          replace B_g13 := kp_blk B_g13 hk (fun h => h)
          replace K_0 := K_0.then_ hk (fun _ h => h.elim)
          clear hh hk
          refine d_take (v := Value.pointer (some ⟨g, 0, none⟩)) p8_9_0 ns8_9 (by kernel_rfl) (by kernel_rfl) (fun _ _ _ h => h) hE wn_none rfl ⟨B_g, trivial⟩ (fun W hS => (st_move rfl)) rfl ?_
          clear hE a; intro a hE
          refine d_take (v := Value.pointer (some ⟨g, 0, none⟩)) p8_9_1 ns8_9 (by kernel_rfl) (by kernel_rfl) (fun _ _ _ h => h) hE wn_none rfl ⟨B_g, trivial⟩ (fun W hS => (st_nil rfl)) rfl ?_
          clear hE a; intro a hE
          refine d_take (v := Value.pointer (some ⟨g, 1, none⟩)) p8_9_2 ns8_9 (by kernel_rfl) (by kernel_rfl) (fun _ _ _ h => h) hE wn_none rfl ⟨B_g, trivial⟩ (fun W hS => (st_fieldAddr Try.underlying29 rfl tS27 rfl rfl)) rfl ?_
          clear hE a; intro a hE
          refine d_take (v := Value.map (some g13)) p8_9_3 ns8_9 (by kernel_rfl) (by kernel_rfl) (fun _ _ _ h => h) hE wn_none rfl ⟨B_g, trivial⟩ (fun W hS => (st_load1 tA27 rfl ((blk_cell hS.1 1).trans rfl))) rfl ?_
          clear hE a; intro a hE
          refine d_take (v := Value.int .i64 x) p8_9_4 ns8_9 (by kernel_rfl) (by kernel_rfl) (fun _ _ _ h => h) hE wn_none rfl ⟨B_g, trivial⟩ (fun W hS => (st_move rfl)) rfl ?_
          clear hE a; intro a hE
          refine d_take (v := Value.pointer (some ⟨g, 0, none⟩)) p8_9_5 ns8_9 (by kernel_rfl) (by kernel_rfl) (fun _ _ _ h => h) hE wn_none rfl ⟨B_g, trivial⟩ (fun W hS => (st_move rfl)) rfl ?_
          clear hE a; intro a hE
          refine d_take (v := Value.pointer (some ⟨g, 0, none⟩)) p8_9_6 ns8_9 (by kernel_rfl) (by kernel_rfl) (fun _ _ _ h => h) hE wn_none rfl ⟨B_g, trivial⟩ (fun W hS => (st_nil rfl)) rfl ?_
          clear hE a; intro a hE
          refine d_take (v := Value.pointer (some ⟨g, 0, none⟩)) p8_9_7 ns8_9 (by kernel_rfl) (by kernel_rfl) (fun _ _ _ h => h) hE wn_none rfl ⟨B_g, trivial⟩ (fun W hS => (st_fieldAddr Try.underlying29 rfl tS26 rfl rfl)) rfl ?_
          clear hE a; intro a hE
          refine d_take (v := Value.pointer (some ⟨g, 0, none⟩)) p8_9_8 ns8_9 (by kernel_rfl) (by kernel_rfl) (fun _ _ _ h => h) hE wn_none rfl ⟨B_g, trivial⟩ (fun W hS => (st_fieldAddr Try.underlying26 rfl tS3 rfl rfl)) rfl ?_
          clear hE a; intro a hE
          refine d_take (v := Value.int .i64 now) p8_9_9 ns8_9 (by kernel_rfl) (by kernel_rfl) (fun _ _ _ h => h) hE wn_none rfl ⟨B_g, trivial⟩ (fun W hS => (st_load1 tA3 rfl ((blk_cell hS.1 0).trans rfl))) rfl ?_
          clear hE a; intro a hE
          refine d_take (v := Value.int .i64 n) p8_9_10 ns8_9 (by kernel_rfl) (by kernel_rfl) (fun _ _ _ h => h) hE wn_none rfl ⟨B_g, trivial⟩ (fun W hS => (st_move rfl)) rfl ?_
          clear hE a; intro a hE
          refine d_take (v := Value.int .i64 (now + n)) p8_9_11 ns8_9 (by kernel_rfl) (by kernel_rfl) (fun _ _ _ h => h) hE wn_none rfl ⟨B_g, trivial⟩ (fun W hS => (st_add (z := now + n) rfl rfl (wr_i64 _ (by omega) (by omega)))) rfl ?_
          clear hE a; intro a hE
          refine d_one (by kernel_rfl) rfl (Mi.s_putI (u := now + n) p8_9_12 hE wn_none Try.underlying27 Try.underlying3 rfl rfl rfl rfl (wf64 (by omega) (by omega)) (Mi.mapi_nil (Value.int .i64) 0) B_g13 ?_)
          intro esm19 ckm19 w18 MF_m19 B_g13' hk
          replace B_g := kp_blk B_g hk n_g_g13
          replace B_g9 := kp_blk B_g9 hk n_g9_g13
          replace K_0 := K_0.then_ hk (fun k h => by rw [show k = g13 from h]; exact Or.inr z_0_g13)
          replace B_g13 := B_g13'
          clear hk
          refine ⟨⟨B_g, trivial⟩, ?_⟩
          refine d_end (by kernel_rfl) ?_
          refine x_norm ?_
          refine c_reg R8_10_l ?_
          refine q0 p8_10_0 hE (st_assign rfl) ?_
          clear hE a; intro a hE
          refine p_nil ?_
          refine x_norm ?_
          refine wp_ret ?_
          refine ret_one (v := Value.int .i64 0) rfl hE (.tmp rfl .nil) ?_
          have hc9 : codeW now x n = 0 := by unfold codeW; rw [if_pos ⟨hV, by omega, by omega⟩, if_neg hOV]
          exact ⟨by rw [hc9], .inr ⟨g13, esm19, ckm19, hc9, z_0_g13, n_g_g13, B_g, B_g13, MF_m19, K_0⟩⟩
  ·
    refine c_reg R8_3_l ?_
    refine q0 p8_3_0 hE (st_move rfl) ?_
    clear hE a; intro a hE
    refine p_cons (s_row (xs := [(0, Operand.tmp 11)]) (vs := [(0, Value.int .i64 x)]) (cs := #[Value.int .i64 x]) p8_3_1 hE wn_none rfl Try.underlying35 rfl (by kernel_rfl) ?_)
    clear hE a; intro g20 w21 z22 B_g20 hk a hE
    have n_g_g20 : g ≠ g20 := ne_new B_g z22
    have z_0_g20 := Nat.le_trans K_0.kept.1 z22
    replace B_g := kp_blk B_g hk (fun h => h)
    replace K_0 := K_0.then_ hk (fun _ h => h.elim)
    clear hk
    refine p_cons (s_call (xs := [Operand.const (Value.int IntKind.i64 1), Operand.tmp 12]) (args := [Value.int .i64 1, Value.slice (some ⟨g20, 0, none⟩) 1 1]) p8_3_2 hE wn_none rfl rfl Try.func32 cl32 (fits1 g20 x false (by simpa using hV) _ B_g20) ?_)
    rintro e w23 ⟨rfl, hk⟩
    replace B_g := kp_blk B_g hk (fun h => h)
    replace B_g20 := kp_blk B_g20 hk (fun h => h)
    replace K_0 := K_0.then_ hk (fun _ h => h.elim)
    refine ⟨_, rfl, ?_⟩
    clear hE a; intro a hE
    refine q0 p8_3_3 hE (st_not rfl rfl) ?_
    clear hE a; intro a hE
    refine q0 p8_3_4 hE (st_move rfl) ?_
    clear hE a; intro a hE
    refine p_cons (s_skip p8_3_5 hE (wn_some g8_3_4 rfl rfl) rfl ?_)
    clear hE a; intro a hE
    refine p_cons (s_skip p8_3_6 hE (wn_some g8_3_4 rfl rfl) rfl ?_)
    clear hE a; intro a hE
    refine q0 p8_3_7 hE (st_pick rfl rfl) ?_
    clear hE a; intro a hE
    refine q0 p8_3_8 hE (st_move rfl) ?_
    clear hE a; intro a hE
    refine p_cons (s_skip p8_3_9 hE (wn_some g8_3_8 rfl rfl) rfl ?_)
    clear hE a; intro a hE
    refine p_cons (s_skip p8_3_10 hE (wn_some g8_3_8 rfl rfl) rfl ?_)
    clear hE a; intro a hE
    refine q0 p8_3_11 hE (st_pick rfl rfl) ?_
    clear hE a; intro a hE
    refine q0 p8_3_12 hE (st_assign rfl) ?_
    clear hE a; intro a hE
    refine p_nil ?_
    refine x_norm ?_
    refine c_cond (t := true) hE rfl ?_
    refine c_reg R8_4_l ?_
    refine q0 p8_4_0 hE (st_assign rfl) ?_
    clear hE a; intro a hE
    refine p_nil ?_
    refine x_norm ?_
    refine wp_ret ?_
    refine x_retB ?_
    refine x_ret ?_
    refine ret_one (v := Value.int .i64 1) rfl hE (.tmp rfl .nil) ?_
    have hc9 : codeW now x n = 1 := by unfold codeW; rw [if_neg (fun q => hV q.1)]
    exact ⟨by rw [hc9], .inl ⟨by rw [hc9]; decide, B_g, K_0⟩⟩
theorem R9_0_l : List.range (regOf Try.f9 0).size = [0] := by kernel_rfl
theorem R9_1_l : List.range (regOf Try.f9 1).size = [0, 1] := by kernel_rfl
theorem R9_2_l : List.range (regOf Try.f9 2).size = [0] := by kernel_rfl
theorem R9_3_l : List.range (regOf Try.f9 3).size = [0, 1, 2, 3, 4, 5] := by kernel_rfl
theorem R9_4_l : List.range (regOf Try.f9 4).size = [0, 1, 2] := by kernel_rfl
theorem R9_5_l : List.range (regOf Try.f9 5).size = [0] := by kernel_rfl
theorem R9_6_l : List.range (regOf Try.f9 6).size = [0, 1, 2] := by kernel_rfl
theorem R9_7_l : List.range (regOf Try.f9 7).size = [0, 1, 2, 3, 4, 5] := by kernel_rfl
theorem R9_8_l : List.range (regOf Try.f9 8).size = [0, 1] := by kernel_rfl
theorem R9_9_l : List.range (regOf Try.f9 9).size = [0, 1, 2, 3, 4, 5, 6, 7] := by kernel_rfl
theorem body9 : Try.f9.body = some (.seq (.region 0 (regOf Try.f9 0) false) (.seq (.seq (.region 1 (regOf Try.f9 1) false) (.cond (Operand.tmp 9) (.seq (.region 2 (regOf Try.f9 2) false) (.ret)) (.skip))) (.seq (.region 3 (regOf Try.f9 3) false) (.seq (.seq (.region 4 (regOf Try.f9 4) false) (.block 0 (.loop (.seq (.region 5 (regOf Try.f9 5) false) (.seq (.cond (Operand.tmp 18) (.skip) (.exit 0)) (.seq (.block 1 (.seq (.region 6 (regOf Try.f9 6) false) (.region 7 (regOf Try.f9 7) false))) (.region 8 (regOf Try.f9 8) false))))))) (.seq (.region 9 (regOf Try.f9 9) false) (.ret)))))) := by kernel_rfl
theorem p9_0_0 : pj (regOf Try.f9 0) 0 = some (some 4, .assign (.const (.int .i64 0)), 3, none) := by kernel_rfl
theorem p9_1_0 : pj (regOf Try.f9 1) 0 = some (some 8, .move (.tmp 0), 24, none) := by kernel_rfl
theorem p9_1_1 : pj (regOf Try.f9 1) 1 = some (some 9, .binOp .eql 24 (.tmp 8) (.const (.pointer none)) 24, 4, none) := by kernel_rfl
theorem p9_3_0 : pj (regOf Try.f9 3) 0 = some (some 10, .move (.tmp 0), 24, none) := by kernel_rfl
theorem p9_3_1 : pj (regOf Try.f9 3) 1 = some (some 11, .nilCheck (.tmp 10), 0, none) := by kernel_rfl
theorem p9_3_2 : pj (regOf Try.f9 3) 2 = some (some 12, .fieldAddr 29 (.tmp 11) 1, 0, none) := by kernel_rfl
theorem p9_3_3 : pj (regOf Try.f9 3) 3 = some (some 13, .load 27 (.tmp 12), 27, none) := by kernel_rfl
theorem p9_3_4 : pj (regOf Try.f9 3) 4 = some (some 14, .call { callee := .builtin .len, args := #[.tmp 13], argTypes := #[27] }, 3, none) := by kernel_rfl
theorem p9_3_5 : pj (regOf Try.f9 3) 5 = some (some 5, .assign (.tmp 14), 3, none) := by kernel_rfl
theorem p9_4_0 : pj (regOf Try.f9 4) 0 = some (some 15, .move (.tmp 1), 35, none) := by kernel_rfl
theorem p9_4_1 : pj (regOf Try.f9 4) 1 = some (some 16, .call { callee := .builtin .len, args := #[.tmp 15], argTypes := #[35] }, 3, none) := by kernel_rfl
theorem p9_4_2 : pj (regOf Try.f9 4) 2 = some (some 17, .move (.const (.int .i64 0)), 3, none) := by kernel_rfl
theorem p9_5_0 : pj (regOf Try.f9 5) 0 = some (some 18, .binOp .lss 3 (.tmp 17) (.tmp 16) 3, 0, none) := by kernel_rfl
theorem p9_6_0 : pj (regOf Try.f9 6) 0 = some (some 19, .indexAddr 35 (.tmp 15) (.tmp 17), 0, none) := by kernel_rfl
theorem p9_6_1 : pj (regOf Try.f9 6) 1 = some (some 20, .load 3 (.tmp 19), 3, none) := by kernel_rfl
theorem p9_6_2 : pj (regOf Try.f9 6) 2 = some (some 7, .assign (.tmp 20), 3, none) := by kernel_rfl
theorem p9_7_0 : pj (regOf Try.f9 7) 0 = some (some 21, .move (.tmp 0), 24, none) := by kernel_rfl
theorem p9_7_1 : pj (regOf Try.f9 7) 1 = some (some 22, .nilCheck (.tmp 21), 0, none) := by kernel_rfl
theorem p9_7_2 : pj (regOf Try.f9 7) 2 = some (some 23, .fieldAddr 29 (.tmp 22) 1, 0, none) := by kernel_rfl
theorem p9_7_3 : pj (regOf Try.f9 7) 3 = some (some 24, .load 27 (.tmp 23), 27, none) := by kernel_rfl
theorem p9_7_4 : pj (regOf Try.f9 7) 4 = some (some 25, .move (.tmp 7), 3, none) := by kernel_rfl
theorem p9_7_5 : pj (regOf Try.f9 7) 5 = some (none, .call { callee := .builtin .delete, args := #[.tmp 24, .tmp 25], argTypes := #[27, 3] }, 0, none) := by kernel_rfl
theorem p9_8_0 : pj (regOf Try.f9 8) 0 = some (some 26, .binOp .add 3 (.tmp 17) (.const (.int .i64 1)) 3, 3, none) := by kernel_rfl
theorem p9_8_1 : pj (regOf Try.f9 8) 1 = some (some 17, .move (.tmp 26), 3, none) := by kernel_rfl
theorem p9_9_0 : pj (regOf Try.f9 9) 0 = some (some 27, .move (.tmp 5), 3, none) := by kernel_rfl
theorem p9_9_1 : pj (regOf Try.f9 9) 1 = some (some 28, .move (.tmp 0), 24, none) := by kernel_rfl
theorem p9_9_2 : pj (regOf Try.f9 9) 2 = some (some 29, .nilCheck (.tmp 28), 0, none) := by kernel_rfl
theorem p9_9_3 : pj (regOf Try.f9 9) 3 = some (some 30, .fieldAddr 29 (.tmp 29) 1, 0, none) := by kernel_rfl
theorem p9_9_4 : pj (regOf Try.f9 9) 4 = some (some 31, .load 27 (.tmp 30), 27, none) := by kernel_rfl
theorem p9_9_5 : pj (regOf Try.f9 9) 5 = some (some 32, .call { callee := .builtin .len, args := #[.tmp 31], argTypes := #[27] }, 3, none) := by kernel_rfl
theorem p9_9_6 : pj (regOf Try.f9 9) 6 = some (some 33, .binOp .sub 3 (.tmp 27) (.tmp 32) 3, 3, none) := by kernel_rfl
theorem p9_9_7 : pj (regOf Try.f9 9) 7 = some (some 4, .assign (.tmp 33), 3, none) := by kernel_rfl
set_option maxHeartbeats 4000000 in
theorem cancel_any (g gm ck : Nat) (es : Array MapEntry) (l : Wp.LW) (now : Int) (b : Nat) (x y : Int) (w : World) (hll : l.length ≤ 1000) (hb9 : w.heap[b]? = some (.cells #[.int .i64 x, .int .i64 y] 3 (0, 0))) (hgb : g ≠ b) (hg : w.heap[g]? = some (.cells #[.int .i64 now, .map (some gm)] 29 (0, 0))) (hm : w.heap[gm]? = some (.map es ck)) (hF : MapI (Value.int .i64) es ck l) (hne : g ≠ gm) : Calls Try.prog 9 #[.pointer (some ⟨g, 0, none⟩), .slice (some ⟨b, 0, none⟩) 2 2] w fun e w' => ∃ es' ck', e = .returned (.int .i64 ((l.length : Int) - ((delI (delI l x) y).length : Int))) ∧ MapI (Value.int .i64) es' ck' (delI (delI l x) y) ∧ w'.heap[gm]? = some (.map es' ck') ∧ Kp w w' (fun k => k = gm) := by
  have K_0 := Kp.refl w (fun k => k = gm)
  have B_g := hg
  have B_gm := hm
  have n_g_gm := hne
  have B_b := hb9
  have n_g_b : g ≠ b := hgb
  have n_gm_b : gm ≠ b := fun e => by rw [e] at hm; rw [hm] at hb9; cases hb9
  refine enter (args := [Value.pointer (some ⟨g, 0, none⟩), Value.slice (some ⟨b, 0, none⟩) 2 2]) (n := 34) Try.func9 body9 rfl rfl rfl ?_
  intro a hE
  refine c_reg R9_0_l ?_
  refine q0 p9_0_0 hE (st_assign rfl) ?_
  clear hE a; intro a hE
  refine p_nil ?_
  refine x_norm ?_
  refine wp_seq ?_
  refine c_reg R9_1_l ?_
  refine q0 p9_1_0 hE (st_move rfl) ?_
  clear hE a; intro a hE
  refine q0 p9_1_1 hE (st_eqlP (b := false) tP24 rfl rfl rfl) ?_
  clear hE a; intro a hE
  refine p_nil ?_
  refine x_norm ?_
  refine c_cond (t := false) hE rfl ?_
  refine wp_skip ?_
  refine x_norm ?_
  refine c_reg R9_3_l ?_
  refine q0 p9_3_0 hE (st_move rfl) ?_
  clear hE a; intro a hE
  refine q0 p9_3_1 hE (st_nil rfl) ?_
  clear hE a; intro a hE
  refine q0 p9_3_2 hE (st_fieldAddr Try.underlying29 rfl tS27 rfl rfl) ?_
  clear hE a; intro a hE
  refine q0 p9_3_3 hE (st_load1 tA27 rfl ((blk_cell B_g 1).trans rfl)) ?_
  clear hE a; intro a hE
  refine q0 p9_3_4 hE (Mi.st_lenM Try.underlying27 rfl hF B_gm) ?_
  clear hE a; intro a hE
  refine q0 p9_3_5 hE (st_assign rfl) ?_
  clear hE a; intro a hE
  refine p_nil ?_
  refine x_norm ?_
  refine wp_seq ?_
  refine c_reg R9_4_l ?_
  refine q0 p9_4_0 hE (st_move rfl) ?_
  clear hE a; intro a hE
  refine q0 p9_4_1 hE (st_len Try.underlying35 rfl) ?_
  clear hE a; intro a hE
  refine q0 p9_4_2 hE (st_move rfl) ?_
  clear hE a; intro a hE
  refine p_nil ?_
  refine x_norm ?_
  refine wp_block ?_
  refine wp_loop_rounds 3 ?_
  refine (Eq.mpr (rounds_succ (n := 2)) ?_)
  refine c_reg R9_5_l ?_
  refine q0 p9_5_0 hE (st_lss (b := true) rfl rfl (by decide)) ?_
  clear hE a; intro a hE
  refine p_nil ?_
  refine x_norm ?_
  refine wp_seq ?_
  refine c_cond (t := true) hE rfl ?_
  refine wp_skip ?_
  refine x_norm ?_
  refine wp_seq ?_
  refine wp_block ?_
  refine c_reg R9_6_l ?_
  refine q0 p9_6_0 hE (st_indexAddr (i := 0) Try.underlying35 tS3 rfl rfl (by decide) rfl) ?_
  clear hE a; intro a hE
  refine q0 p9_6_1 hE (st_load1 tA3 rfl ((blk_cell B_b 0).trans rfl)) ?_
  clear hE a; intro a hE
  refine q0 p9_6_2 hE (st_assign rfl) ?_
  clear hE a; intro a hE
  refine p_nil ?_
  refine x_norm ?_
  refine c_regL R9_7_l ?_
  refine q0 p9_7_0 hE (st_move rfl) ?_
  clear hE a; intro a hE
  refine q0 p9_7_1 hE (st_nil rfl) ?_
  clear hE a; intro a hE
  refine q0 p9_7_2 hE (st_fieldAddr Try.underlying29 rfl tS27 rfl rfl) ?_
  clear hE a; intro a hE
  refine q0 p9_7_3 hE (st_load1 tA27 rfl ((blk_cell B_g 1).trans rfl)) ?_
  clear hE a; intro a hE
  refine q0 p9_7_4 hE (st_move rfl) ?_
  clear hE a; intro a hE
  refine p_cons (Mi.s_delI p9_7_5 hE wn_none Try.underlying27 Try.underlying3 rfl rfl hF B_gm ?_)
  intro esm2 ckm2 w1 MF_m2 B_gm' hk
  replace B_g := kp_blk B_g hk n_g_gm
  replace B_b := kp_blk B_b hk (Ne.symm n_gm_b)
  replace K_0 := K_0.then_ hk (fun k h => by rw [show k = gm from h]; exact Or.inl rfl)
  replace B_gm := B_gm'
  clear hk
  refine p_nil ?_
  refine x_normB ?_
  refine x_norm ?_
  refine c_regL R9_8_l ?_
  refine q0 p9_8_0 hE (st_add (z := 1) rfl rfl (by decide)) ?_
  clear hE a; intro a hE
  refine q0 p9_8_1 hE (st_move rfl) ?_
  clear hE a; intro a hE
  refine p_nil ?_
  refine x_norm ?_
  refine (Eq.mpr (rounds_succ (n := 1)) ?_)
  refine c_reg R9_5_l ?_
  refine q0 p9_5_0 hE (st_lss (b := true) rfl rfl (by decide)) ?_
  clear hE a; intro a hE
  refine p_nil ?_
  refine x_norm ?_
  refine wp_seq ?_
  refine c_cond (t := true) hE rfl ?_
  refine wp_skip ?_
  refine x_norm ?_
  refine wp_seq ?_
  refine wp_block ?_
  refine c_reg R9_6_l ?_
  refine q0 p9_6_0 hE (st_indexAddr (i := 1) Try.underlying35 tS3 rfl rfl (by decide) rfl) ?_
  clear hE a; intro a hE
  refine q0 p9_6_1 hE (st_load1 tA3 rfl ((blk_cell B_b 1).trans rfl)) ?_
  clear hE a; intro a hE
  refine q0 p9_6_2 hE (st_assign rfl) ?_
  clear hE a; intro a hE
  refine p_nil ?_
  refine x_norm ?_
  refine c_regL R9_7_l ?_
  refine q0 p9_7_0 hE (st_move rfl) ?_
  clear hE a; intro a hE
  refine q0 p9_7_1 hE (st_nil rfl) ?_
  clear hE a; intro a hE
  refine q0 p9_7_2 hE (st_fieldAddr Try.underlying29 rfl tS27 rfl rfl) ?_
  clear hE a; intro a hE
  refine q0 p9_7_3 hE (st_load1 tA27 rfl ((blk_cell B_g 1).trans rfl)) ?_
  clear hE a; intro a hE
  refine q0 p9_7_4 hE (st_move rfl) ?_
  clear hE a; intro a hE
  refine p_cons (Mi.s_delI p9_7_5 hE wn_none Try.underlying27 Try.underlying3 rfl rfl MF_m2 B_gm ?_)
  intro esm4 ckm4 w3 MF_m4 B_gm' hk
  replace B_g := kp_blk B_g hk n_g_gm
  replace B_b := kp_blk B_b hk (Ne.symm n_gm_b)
  replace K_0 := K_0.then_ hk (fun k h => by rw [show k = gm from h]; exact Or.inl rfl)
  replace B_gm := B_gm'
  clear hk
  refine p_nil ?_
  refine x_normB ?_
  refine x_norm ?_
  refine c_regL R9_8_l ?_
  refine q0 p9_8_0 hE (st_add (z := 2) rfl rfl (by decide)) ?_
  clear hE a; intro a hE
  refine q0 p9_8_1 hE (st_move rfl) ?_
  clear hE a; intro a hE
  refine p_nil ?_
  refine x_norm ?_
  refine (Eq.mpr (rounds_succ (n := 0)) ?_)
  refine c_reg R9_5_l ?_
  refine q0 p9_5_0 hE (st_lss (b := false) rfl rfl (by decide)) ?_
  clear hE a; intro a hE
  refine p_nil ?_
  refine x_norm ?_
  refine wp_seq ?_
  refine c_cond (t := false) hE rfl ?_
  refine wp_exit ?_
  refine x_exit ?_
  refine x_exit ?_
  refine x_in ?_
  refine x_norm ?_
  refine c_reg R9_9_l ?_
  refine q0 p9_9_0 hE (st_move rfl) ?_
  clear hE a; intro a hE
  refine q0 p9_9_1 hE (st_move rfl) ?_
  clear hE a; intro a hE
  refine q0 p9_9_2 hE (st_nil rfl) ?_
  clear hE a; intro a hE
  refine q0 p9_9_3 hE (st_fieldAddr Try.underlying29 rfl tS27 rfl rfl) ?_
  clear hE a; intro a hE
  refine q0 p9_9_4 hE (st_load1 tA27 rfl ((blk_cell B_g 1).trans rfl)) ?_
  clear hE a; intro a hE
  refine q0 p9_9_5 hE (Mi.st_lenM Try.underlying27 rfl MF_m4 B_gm) ?_
  clear hE a; intro a hE
  refine q0 p9_9_6 hE (st_sub (z := (l.length : Int) - ((Mi.delI (Mi.delI l x) y).length : Int)) rfl rfl (wr_i64 _ (by have := (Mi.delI_sub (l := l) x).length_le; have := (Mi.delI_sub (l := delI l x) y).length_le; omega) (by omega))) ?_
  clear hE a; intro a hE
  refine q0 p9_9_7 hE (st_assign rfl) ?_
  clear hE a; intro a hE
  refine p_nil ?_
  refine x_norm ?_
  refine wp_ret ?_
  refine ret_one (v := Value.int .i64 ((l.length : Int) - ((Mi.delI (Mi.delI l x) y).length : Int))) rfl hE (.tmp rfl .nil) ?_
  exact ⟨esm4, ckm4, rfl, MF_m4, B_gm, K_0⟩
end Go.Proofs.Ytlmjbmeigclihaa.Wh
