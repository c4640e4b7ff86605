/- The wheel at any map. -/
import Derived.Test.YtlmjbmeigclihaaWhn
set_option maxRecDepth 100000
set_option linter.unusedVariables false
set_option linter.unusedSimpArgs false
namespace Go.Proofs.Ytlmjbmeigclihaa.Wu
open Go.RowKit Go.Proofs.YtlmjbmeigclihaaW.PrintWords Go.Proofs.Ytlmjbmeigclihaa.Ds Go.Proofs.Ytlmjbmeigclihaa.Wp Go.Proofs.Ytlmjbmeigclihaa.Wh Go.Proofs.Ytlmjbmeigclihaa.Wo Go.Proofs.Ytlmjbmeigclihaa.Wr
open Go.Proofs.Ytlmjbmeigclihaa.Pk (Kp)
open Go.Proofs.Ytlmjbmeigclihaa.Mi (st_eqlP st_neqP x_normS x_retS x_exitS MapI getI putI delI)
def dueP (l : LW) (x : Int) : Int × Int := match getI l x with | none => (0, 8) | some v => (v, 0)
theorem R37_0_l : List.range (regOf Try.f37 0).size = [0, 1] := by kernel_rfl
theorem R37_1_l : List.range (regOf Try.f37 1).size = [0, 1] := by kernel_rfl
theorem R37_2_l : List.range (regOf Try.f37 2).size = [0, 1] := by kernel_rfl
theorem R37_3_l : List.range (regOf Try.f37 3).size = [0, 1, 2, 3, 4, 5, 6, 7, 8, 9, 10] := by kernel_rfl
theorem R37_4_l : List.range (regOf Try.f37 4).size = [0, 1] := by kernel_rfl
theorem R37_5_l : List.range (regOf Try.f37 5).size = [0, 1] := by kernel_rfl
theorem R37_6_l : List.range (regOf Try.f37 6).size = [0, 1, 2] := by kernel_rfl
theorem body37 : Try.f37.body = some (.seq (.region 0 (regOf Try.f37 0) false) (.seq (.seq (.region 1 (regOf Try.f37 1) false) (.cond (Operand.tmp 9) (.seq (.region 2 (regOf Try.f37 2) false) (.ret)) (.skip))) (.seq (.region 3 (regOf Try.f37 3) false) (.seq (.seq (.region 4 (regOf Try.f37 4) false) (.cond (Operand.tmp 20) (.seq (.region 5 (regOf Try.f37 5) false) (.ret)) (.skip))) (.seq (.region 6 (regOf Try.f37 6) false) (.ret)))))) := by kernel_rfl
theorem p37_0_0 : pj (regOf Try.f37 0) 0 = some (some 4, .assign (.const (.int .i64 0)), 3, none) := by kernel_rfl
theorem p37_0_1 : pj (regOf Try.f37 0) 1 = some (some 5, .assign (.const (.int .i64 0)), 30, none) := by kernel_rfl
theorem p37_1_0 : pj (regOf Try.f37 1) 0 = some (some 8, .move (.tmp 0), 24, none) := by kernel_rfl
theorem p37_1_1 : pj (regOf Try.f37 1) 1 = some (some 9, .binOp .eql 24 (.tmp 8) (.const (.pointer none)) 24, 4, none) := by kernel_rfl
theorem tP24 : Try.prog.underlying 24 = some (.pointer (Try.prog.pointee 24)) := by kernel_rfl
theorem p37_3_0 : pj (regOf Try.f37 3) 0 = some (some 11, .move (.tmp 0), 24, none) := by kernel_rfl
theorem p37_3_1 : pj (regOf Try.f37 3) 1 = some (some 12, .nilCheck (.tmp 11), 0, none) := by kernel_rfl
theorem p37_3_2 : pj (regOf Try.f37 3) 2 = some (some 13, .fieldAddr 29 (.tmp 12) 1, 0, none) := by kernel_rfl
theorem tS27 : (Try.prog.info? 27).map (·.size) = some 1 := by kernel_rfl
theorem p37_3_3 : pj (regOf Try.f37 3) 3 = some (some 14, .load 27 (.tmp 13), 27, none) := by kernel_rfl
theorem tA27 : (Try.prog.underlying 27).map aggD = some false := by kernel_rfl
theorem p37_3_4 : pj (regOf Try.f37 3) 4 = some (some 15, .move (.tmp 1), 3, none) := by kernel_rfl
theorem p37_3_5 : pj (regOf Try.f37 3) 5 = some (some 16, .lookup 27 (.tmp 14) (.tmp 15) true, 74, none) := by kernel_rfl
theorem tZ3 : (Try.prog.info? 3).bind (·.zero) = some (Value.int .i64 0) := by kernel_rfl
theorem p37_3_6 : pj (regOf Try.f37 3) 6 = some (some 10, .move (.tmp 16), 74, none) := by kernel_rfl
theorem p37_3_7 : pj (regOf Try.f37 3) 7 = some (some 17, .extract (.tmp 10) 0, 3, none) := by kernel_rfl
theorem p37_3_8 : pj (regOf Try.f37 3) 8 = some (some 18, .extract (.tmp 10) 1, 4, none) := by kernel_rfl
theorem p37_3_9 : pj (regOf Try.f37 3) 9 = some (some 6, .assign (.tmp 17), 3, none) := by kernel_rfl
theorem p37_3_10 : pj (regOf Try.f37 3) 10 = some (some 7, .assign (.tmp 18), 4, none) := by kernel_rfl
theorem p37_4_0 : pj (regOf Try.f37 4) 0 = some (some 19, .move (.tmp 7), 4, none) := by kernel_rfl
theorem p37_4_1 : pj (regOf Try.f37 4) 1 = some (some 20, .unOp .not 4 (.tmp 19), 4, none) := by kernel_rfl
theorem p37_6_0 : pj (regOf Try.f37 6) 0 = some (some 21, .move (.tmp 6), 3, none) := by kernel_rfl
theorem p37_6_1 : pj (regOf Try.f37 6) 1 = some (some 4, .assign (.tmp 21), 3, none) := by kernel_rfl
theorem p37_6_2 : pj (regOf Try.f37 6) 2 = some (some 5, .assign (.const (.int .i64 0)), 30, none) := by kernel_rfl
theorem p37_5_0 : pj (regOf Try.f37 5) 0 = some (some 4, .assign (.const (.int .i64 0)), 3, none) := by kernel_rfl
theorem p37_5_1 : pj (regOf Try.f37 5) 1 = some (some 5, .assign (.const (.int .i64 8)), 30, none) := by kernel_rfl
set_option maxHeartbeats 4000000 in
theorem due_map (g gm ck : Nat) (es : Array MapEntry) (l : Wp.LW) (now : Int) (x : Int) (w : World) (hg : w.heap[g]? = some (.cells #[.int .i64 now, .map (some gm)] 29 (0, 0))) (hm : w.heap[gm]? = some (.map es ck)) (hF : MapI (Value.int .i64) es ck l) (hne : g ≠ gm) : Calls Try.prog 37 #[.pointer (some ⟨g, 0, none⟩), .int .i64 x] w fun e w' => e = .returned (.tuple #[.int .i64 (dueP l x).1, .int .i64 (dueP l x).2]) ∧ Kp w w' (fun _ => False) := by
  have K_0 := Kp.refl w (fun _ => False)
  have B_g := hg
  have B_gm := hm
  have n_g_gm := hne
  refine enter (args := [Value.pointer (some ⟨g, 0, none⟩), Value.int .i64 x]) (n := 22) Try.func37 body37 rfl rfl rfl ?_
  intro a hE
  refine c_reg R37_0_l ?_
  refine q0 p37_0_0 hE (st_assign rfl) ?_
  clear hE a; intro a hE
  refine q0 p37_0_1 hE (st_assign rfl) ?_
  clear hE a; intro a hE
  refine p_nil ?_
  refine x_norm ?_
  refine wp_seq ?_
  refine c_reg R37_1_l ?_
  refine q0 p37_1_0 hE (st_move rfl) ?_
  clear hE a; intro a hE
  refine q0 p37_1_1 hE (st_eqlP (b := false) tP24 rfl rfl rfl) ?_
  clear hE a; intro a hE
  refine p_nil ?_
  refine x_norm ?_
  refine c_cond (t := false) hE rfl ?_
  refine wp_skip ?_
  refine x_norm ?_
  rcases Decidable.em ((getI l x).isSome = true) with hHAS | hHAS
  ·
    refine c_reg R37_3_l ?_
    refine q0 p37_3_0 hE (st_move rfl) ?_
    clear hE a; intro a hE
    refine q0 p37_3_1 hE (st_nil rfl) ?_
    clear hE a; intro a hE
    refine q0 p37_3_2 hE (st_fieldAddr Try.underlying29 rfl tS27 rfl rfl) ?_
    clear hE a; intro a hE
    refine q0 p37_3_3 hE (st_load1 tA27 rfl ((blk_cell B_g 1).trans rfl)) ?_
    clear hE a; intro a hE
    refine q0 p37_3_4 hE (st_move rfl) ?_
    clear hE a; intro a hE
    obtain ⟨v, hv⟩ := Option.isSome_iff_exists.1 hHAS
    refine p_cons (s_still (v := Value.tuple #[Value.int .i64 v, Value.bool true]) p37_3_5 hE wn_none rfl (Mi.st_look2 Try.underlying27 Try.underlying3 tZ3 rfl rfl hF B_gm (by rw [hv]; rfl) (by rw [hv]; rfl)) ?_)
    clear hE a; intro a hE
    refine q0 p37_3_6 hE (st_move rfl) ?_
    clear hE a; intro a hE
    refine q0 p37_3_7 hE (st_extract rfl rfl) ?_
    clear hE a; intro a hE
    refine q0 p37_3_8 hE (st_extract rfl rfl) ?_
    clear hE a; intro a hE
    refine q0 p37_3_9 hE (st_assign rfl) ?_
    clear hE a; intro a hE
    refine q0 p37_3_10 hE (st_assign rfl) ?_
    clear hE a; intro a hE
    refine p_nil ?_
    refine x_norm ?_
    refine wp_seq ?_
    refine c_reg R37_4_l ?_
    refine q0 p37_4_0 hE (st_move rfl) ?_
    clear hE a; intro a hE
    refine q0 p37_4_1 hE (st_not rfl rfl) ?_
    clear hE a; intro a hE
    refine p_nil ?_
    refine x_norm ?_
    refine c_cond (t := false) hE rfl ?_
    refine wp_skip ?_
    refine x_norm ?_
    refine c_reg R37_6_l ?_
    refine q0 p37_6_0 hE (st_move rfl) ?_
    clear hE a; intro a hE
    refine q0 p37_6_1 hE (st_assign rfl) ?_
    clear hE a; intro a hE
    refine q0 p37_6_2 hE (st_assign rfl) ?_
    clear hE a; intro a hE
    refine p_nil ?_
    refine x_norm ?_
    refine wp_ret ?_
    refine ret_list (rs := [.tmp 4, .tmp 5]) (vs := [Value.int .i64 v, Value.int .i64 0]) rfl hE (.tmp rfl (.tmp rfl .nil)) rfl ?_
    exact ⟨by unfold dueP; rw [hv], K_0⟩
  ·
    refine c_reg R37_3_l ?_
    refine q0 p37_3_0 hE (st_move rfl) ?_
    clear hE a; intro a hE
    refine q0 p37_3_1 hE (st_nil rfl) ?_
    clear hE a; intro a hE
    refine q0 p37_3_2 hE (st_fieldAddr Try.underlying29 rfl tS27 rfl rfl) ?_
    clear hE a; intro a hE
    refine q0 p37_3_3 hE (st_load1 tA27 rfl ((blk_cell B_g 1).trans rfl)) ?_
    clear hE a; intro a hE
    refine q0 p37_3_4 hE (st_move rfl) ?_
    clear hE a; intro a hE
    have hv := Option.not_isSome_iff_eq_none.1 hHAS
    refine p_cons (s_still (v := Value.tuple #[Value.int .i64 0, Value.bool false]) p37_3_5 hE wn_none rfl (Mi.st_look2 Try.underlying27 Try.underlying3 tZ3 rfl rfl hF B_gm (by rw [hv]; rfl) (by rw [hv]; rfl)) ?_)
    clear hE a; intro a hE
    refine q0 p37_3_6 hE (st_move rfl) ?_
    clear hE a; intro a hE
    refine q0 p37_3_7 hE (st_extract rfl rfl) ?_
    clear hE a; intro a hE
    refine q0 p37_3_8 hE (st_extract rfl rfl) ?_
    clear hE a; intro a hE
    refine q0 p37_3_9 hE (st_assign rfl) ?_
    clear hE a; intro a hE
    refine q0 p37_3_10 hE (st_assign rfl) ?_
    clear hE a; intro a hE
    refine p_nil ?_
    refine x_norm ?_
    refine wp_seq ?_
    refine c_reg R37_4_l ?_
    refine q0 p37_4_0 hE (st_move rfl) ?_
    clear hE a; intro a hE
    refine q0 p37_4_1 hE (st_not rfl rfl) ?_
    clear hE a; intro a hE
    refine p_nil ?_
    refine x_norm ?_
    refine c_cond (t := true) hE rfl ?_
    refine c_reg R37_5_l ?_
    refine q0 p37_5_0 hE (st_assign rfl) ?_
    clear hE a; intro a hE
    refine q0 p37_5_1 hE (st_assign rfl) ?_
    clear hE a; intro a hE
    refine p_nil ?_
    refine x_norm ?_
    refine wp_ret ?_
    refine x_ret ?_
    refine ret_list (rs := [.tmp 4, .tmp 5]) (vs := [Value.int .i64 0, Value.int .i64 8]) rfl hE (.tmp rfl (.tmp rfl .nil)) rfl ?_
    exact ⟨by unfold dueP; rw [hv], K_0⟩

set_option maxHeartbeats 4000000 in
theorem due_nil (g : Nat) (now : Int) (x : Int) (w : World) (hg : w.heap[g]? = some (.cells #[.int .i64 now, .map none] 29 (0, 0))) : Calls Try.prog 37 #[.pointer (some ⟨g, 0, none⟩), .int .i64 x] w fun e w' => e = .returned (.tuple #[.int .i64 0, .int .i64 8]) ∧ Kp w w' (fun _ => False) := by
  have K_0 := Kp.refl w (fun _ => False)
  have B_g := hg
  refine enter (args := [Value.pointer (some ⟨g, 0, none⟩), Value.int .i64 x]) (n := 22) Try.func37 body37 rfl rfl rfl ?_
  intro a hE
  refine c_reg R37_0_l ?_
  refine q0 p37_0_0 hE (st_assign rfl) ?_
  clear hE a; intro a hE
  refine q0 p37_0_1 hE (st_assign rfl) ?_
  clear hE a; intro a hE
  refine p_nil ?_
  refine x_norm ?_
  refine wp_seq ?_
  refine c_reg R37_1_l ?_
  refine q0 p37_1_0 hE (st_move rfl) ?_
  clear hE a; intro a hE
  refine q0 p37_1_1 hE (st_eqlP (b := false) tP24 rfl rfl rfl) ?_
  clear hE a; intro a hE
  refine p_nil ?_
  refine x_norm ?_
  refine c_cond (t := false) hE rfl ?_
  refine wp_skip ?_
  refine x_norm ?_
  refine c_reg R37_3_l ?_
  refine q0 p37_3_0 hE (st_move rfl) ?_
  clear hE a; intro a hE
  refine q0 p37_3_1 hE (st_nil rfl) ?_
  clear hE a; intro a hE
  refine q0 p37_3_2 hE (st_fieldAddr Try.underlying29 rfl tS27 rfl rfl) ?_
  clear hE a; intro a hE
  refine q0 p37_3_3 hE (st_load1 tA27 rfl ((blk_cell B_g 1).trans rfl)) ?_
  clear hE a; intro a hE
  refine q0 p37_3_4 hE (st_move rfl) ?_
  clear hE a; intro a hE
  refine p_cons (s_still (v := Value.tuple #[Value.int .i64 0, Value.bool false]) p37_3_5 hE wn_none rfl (Mi.st_look2N Try.underlying27 Try.underlying3 tZ3 rfl rfl) ?_)
  clear hE a; intro a hE
  refine q0 p37_3_6 hE (st_move rfl) ?_
  clear hE a; intro a hE
  refine q0 p37_3_7 hE (st_extract rfl rfl) ?_
  clear hE a; intro a hE
  refine q0 p37_3_8 hE (st_extract rfl rfl) ?_
  clear hE a; intro a hE
  refine q0 p37_3_9 hE (st_assign rfl) ?_
  clear hE a; intro a hE
  refine q0 p37_3_10 hE (st_assign rfl) ?_
  clear hE a; intro a hE
  refine p_nil ?_
  refine x_norm ?_
  refine wp_seq ?_
  refine c_reg R37_4_l ?_
  refine q0 p37_4_0 hE (st_move rfl) ?_
  clear hE a; intro a hE
  refine q0 p37_4_1 hE (st_not rfl rfl) ?_
  clear hE a; intro a hE
  refine p_nil ?_
  refine x_norm ?_
  refine c_cond (t := true) hE rfl ?_
  refine c_reg R37_5_l ?_
  refine q0 p37_5_0 hE (st_assign rfl) ?_
  clear hE a; intro a hE
  refine q0 p37_5_1 hE (st_assign rfl) ?_
  clear hE a; intro a hE
  refine p_nil ?_
  refine x_norm ?_
  refine wp_ret ?_
  refine x_ret ?_
  refine ret_list (rs := [.tmp 4, .tmp 5]) (vs := [Value.int .i64 0, Value.int .i64 8]) rfl hE (.tmp rfl (.tmp rfl .nil)) rfl ?_
  exact ⟨rfl, K_0⟩
theorem R13_0_l : List.range (regOf Try.f13 0).size = [0, 1] := by kernel_rfl
theorem R13_1_l : List.range (regOf Try.f13 1).size = [0, 1, 2] := by kernel_rfl
theorem R13_2_l : List.range (regOf Try.f13 2).size = [0, 1] := by kernel_rfl
theorem R13_3_l : List.range (regOf Try.f13 3).size = [0, 1, 2, 3, 4, 5, 6] := by kernel_rfl
theorem R13_4_l : List.range (regOf Try.f13 4).size = [0, 1] := by kernel_rfl
theorem R13_5_l : List.range (regOf Try.f13 5).size = [0, 1, 2, 3, 4, 5, 6, 7, 8, 9, 10, 11, 12, 13, 14, 15, 16, 17] := by kernel_rfl
theorem R13_6_l : List.range (regOf Try.f13 6).size = [0, 1, 2, 3] := by kernel_rfl
theorem body13 : Try.f13.body = some (.seq (.region 0 (regOf Try.f13 0) false) (.seq (.block 0 (.seq (.region 1 (regOf Try.f13 1) false) (.cond (Operand.tmp 6) (.seq (.region 2 (regOf Try.f13 2) false) (.ret)) (.seq (.region 3 (regOf Try.f13 3) false) (.cond (Operand.tmp 9) (.seq (.region 4 (regOf Try.f13 4) false) (.ret)) (.skip)))))) (.seq (.region 5 (regOf Try.f13 5) true) (.seq (.region 6 (regOf Try.f13 6) false) (.ret))))) := by kernel_rfl
theorem p13_0_0 : pj (regOf Try.f13 0) 0 = some (some 4, .assign (.const (.slice none 0 0)), 35, none) := by kernel_rfl
theorem p13_0_1 : pj (regOf Try.f13 0) 1 = some (some 5, .assign (.const (.int .i64 0)), 30, none) := by kernel_rfl
theorem p13_1_0 : pj (regOf Try.f13 1) 0 = some (some 7, .move (.tmp 0), 24, none) := by kernel_rfl
theorem p13_1_1 : pj (regOf Try.f13 1) 1 = some (some 8, .binOp .eql 24 (.tmp 7) (.const (.pointer none)) 24, 4, none) := by kernel_rfl
theorem p13_1_2 : pj (regOf Try.f13 1) 2 = some (some 6, .assign (.tmp 8), 4, none) := by kernel_rfl
theorem p13_3_0 : pj (regOf Try.f13 3) 0 = some (some 10, .move (.tmp 1), 3, none) := by kernel_rfl
theorem p13_3_1 : pj (regOf Try.f13 3) 1 = some (some 11, .binOp .lss 3 (.tmp 10) (.const (.int .i64 0)) 3, 4, none) := by kernel_rfl
theorem p13_3_2 : pj (regOf Try.f13 3) 2 = some (some 12, .move (.tmp 11), 4, none) := by kernel_rfl
theorem p13_3_3 : pj (regOf Try.f13 3) 3 = some (some 13, .move (.tmp 1), 3, some (2, false)) := by kernel_rfl
theorem g13_3_2 : dstOf (regOf Try.f13 3) 2 = some 12 := by kernel_rfl
theorem p13_3_4 : pj (regOf Try.f13 3) 4 = some (some 14, .binOp .gtr 3 (.tmp 13) (.const (.int .i64 1099511627776)) 3, 4, some (2, false)) := by kernel_rfl
theorem p13_3_5 : pj (regOf Try.f13 3) 5 = some (some 15, .pick (.tmp 12) (.const (.bool true)) (.tmp 14), 4, none) := by kernel_rfl
theorem p13_3_6 : pj (regOf Try.f13 3) 6 = some (some 9, .assign (.tmp 15), 4, none) := by kernel_rfl
theorem p13_4_0 : pj (regOf Try.f13 4) 0 = some (some 4, .assign (.const (.slice none 0 0)), 35, none) := by kernel_rfl
theorem p13_4_1 : pj (regOf Try.f13 4) 1 = some (some 5, .assign (.const (.int .i64 1)), 30, none) := by kernel_rfl
set_option maxHeartbeats 4000000 in
theorem run_bad (g : Nat) (now n : Int) (V : Value) (hn : n < 0 ∨ 1099511627776 < n) (w : World) (hg : w.heap[g]? = some (.cells #[.int .i64 now, V] 29 (0, 0))) : Calls Try.prog 13 #[.pointer (some ⟨g, 0, none⟩), .int .i64 n] w fun e w' => e = .returned (.tuple #[.slice none 0 0, .int .i64 1]) ∧ Kp w w' (fun _ => False) := by
  have K_0 := Kp.refl w (fun _ => False)
  have B_g := hg
  refine enter (args := [Value.pointer (some ⟨g, 0, none⟩), Value.int .i64 n]) (n := 35) Try.func13 body13 rfl rfl rfl ?_
  intro a hE
  refine c_reg R13_0_l ?_
  refine q0 p13_0_0 hE (st_assign rfl) ?_
  clear hE a; intro a hE
  refine q0 p13_0_1 hE (st_assign rfl) ?_
  clear hE a; intro a hE
  refine p_nil ?_
  refine x_norm ?_
  refine wp_seq ?_
  refine wp_block ?_
  refine c_reg R13_1_l ?_
  refine q0 p13_1_0 hE (st_move rfl) ?_
  clear hE a; intro a hE
  refine q0 p13_1_1 hE (st_eqlP (b := false) tP24 rfl rfl rfl) ?_
  clear hE a; intro a hE
  refine q0 p13_1_2 hE (st_assign rfl) ?_
  clear hE a; intro a hE
  refine p_nil ?_
  refine x_norm ?_
  refine c_cond (t := false) hE rfl ?_
  rcases Decidable.em (n < 0) with hN1 | hN1
  ·
    refine c_reg R13_3_l ?_
    refine q0 p13_3_0 hE (st_move rfl) ?_
    clear hE a; intro a hE
    refine q0 p13_3_1 hE (st_lss (b := true) rfl rfl (decide_eq_true hN1)) ?_
    clear hE a; intro a hE
    refine q0 p13_3_2 hE (st_move rfl) ?_
    clear hE a; intro a hE
    refine p_cons (s_skip p13_3_3 hE (wn_some g13_3_2 rfl rfl) rfl ?_)
    clear hE a; intro a hE
    refine p_cons (s_skip p13_3_4 hE (wn_some g13_3_2 rfl rfl) rfl ?_)
    clear hE a; intro a hE
    refine q0 p13_3_5 hE (st_pick rfl rfl) ?_
    clear hE a; intro a hE
    refine q0 p13_3_6 hE (st_assign rfl) ?_
    clear hE a; intro a hE
    refine p_nil ?_
    refine x_norm ?_
    refine c_cond (t := true) hE rfl ?_
    refine c_reg R13_4_l ?_
    refine q0 p13_4_0 hE (st_assign rfl) ?_
    clear hE a; intro a hE
    refine q0 p13_4_1 hE (st_assign rfl) ?_
    clear hE a; intro a hE
    refine p_nil ?_
    refine x_norm ?_
    refine wp_ret ?_
    refine x_retB ?_
    refine x_ret ?_
    refine ret_list (rs := [.tmp 4, .tmp 5]) (vs := [Value.slice none 0 0, Value.int .i64 1]) rfl hE (.tmp rfl (.tmp rfl .nil)) rfl ?_
    exact ⟨rfl, K_0⟩
  ·
    refine c_reg R13_3_l ?_
    refine q0 p13_3_0 hE (st_move rfl) ?_
    clear hE a; intro a hE
    refine q0 p13_3_1 hE (st_lss (b := false) rfl rfl (decide_eq_false hN1)) ?_
    clear hE a; intro a hE
    refine q0 p13_3_2 hE (st_move rfl) ?_
    clear hE a; intro a hE
    refine p_cons (s_still p13_3_3 hE (wn_some g13_3_2 rfl rfl) rfl (st_move rfl) ?_)
    clear hE a; intro a hE
    refine p_cons (s_still p13_3_4 hE (wn_some g13_3_2 rfl rfl) rfl (st_gtr (b := true) rfl rfl (decide_eq_true (by omega))) ?_)
    clear hE a; intro a hE
    refine q0 p13_3_5 hE (st_pick rfl rfl) ?_
    clear hE a; intro a hE
    refine q0 p13_3_6 hE (st_assign rfl) ?_
    clear hE a; intro a hE
    refine p_nil ?_
    refine x_norm ?_
    refine c_cond (t := true) hE rfl ?_
    refine c_reg R13_4_l ?_
    refine q0 p13_4_0 hE (st_assign rfl) ?_
    clear hE a; intro a hE
    refine q0 p13_4_1 hE (st_assign rfl) ?_
    clear hE a; intro a hE
    refine p_nil ?_
    refine x_norm ?_
    refine wp_ret ?_
    refine x_retB ?_
    refine x_ret ?_
    refine ret_list (rs := [.tmp 4, .tmp 5]) (vs := [Value.slice none 0 0, Value.int .i64 1]) rfl hE (.tmp rfl (.tmp rfl .nil)) rfl ?_
    exact ⟨rfl, K_0⟩
theorem R9_0_l : List.range (regOf Try.f9 0).size = [0] := by kernel_rfl
theorem R9_1_l : List.range (regOf Try.f9 1).size = [0, 1] := by kernel_rfl
theorem R9_2_l : List.range (regOf Try.f9 2).size = [0] := by kernel_rfl
theorem R9_3_l : List.range (regOf Try.f9 3).size = [0, 1, 2, 3, 4, 5] := by kernel_rfl
theorem R9_4_l : List.range (regOf Try.f9 4).size = [0, 1, 2] := by kernel_rfl
theorem R9_5_l : List.range (regOf Try.f9 5).size = [0] := by kernel_rfl
theorem R9_6_l : List.range (regOf Try.f9 6).size = [0, 1, 2] := by kernel_rfl
theorem R9_7_l : List.range (regOf Try.f9 7).size = [0, 1, 2, 3, 4, 5] := by kernel_rfl
theorem R9_8_l : List.range (regOf Try.f9 8).size = [0, 1] := by kernel_rfl
theorem R9_9_l : List.range (regOf Try.f9 9).size = [0, 1, 2, 3, 4, 5, 6, 7] := by kernel_rfl
theorem body9 : Try.f9.body = some (.seq (.region 0 (regOf Try.f9 0) false) (.seq (.seq (.region 1 (regOf Try.f9 1) false) (.cond (Operand.tmp 9) (.seq (.region 2 (regOf Try.f9 2) false) (.ret)) (.skip))) (.seq (.region 3 (regOf Try.f9 3) false) (.seq (.seq (.region 4 (regOf Try.f9 4) false) (.block 0 (.loop (.seq (.region 5 (regOf Try.f9 5) false) (.seq (.cond (Operand.tmp 18) (.skip) (.exit 0)) (.seq (.block 1 (.seq (.region 6 (regOf Try.f9 6) false) (.region 7 (regOf Try.f9 7) false))) (.region 8 (regOf Try.f9 8) false))))))) (.seq (.region 9 (regOf Try.f9 9) false) (.ret)))))) := by kernel_rfl
theorem p9_0_0 : pj (regOf Try.f9 0) 0 = some (some 4, .assign (.const (.int .i64 0)), 3, none) := by kernel_rfl
theorem p9_1_0 : pj (regOf Try.f9 1) 0 = some (some 8, .move (.tmp 0), 24, none) := by kernel_rfl
theorem p9_1_1 : pj (regOf Try.f9 1) 1 = some (some 9, .binOp .eql 24 (.tmp 8) (.const (.pointer none)) 24, 4, none) := by kernel_rfl
theorem p9_3_0 : pj (regOf Try.f9 3) 0 = some (some 10, .move (.tmp 0), 24, none) := by kernel_rfl
theorem p9_3_1 : pj (regOf Try.f9 3) 1 = some (some 11, .nilCheck (.tmp 10), 0, none) := by kernel_rfl
theorem p9_3_2 : pj (regOf Try.f9 3) 2 = some (some 12, .fieldAddr 29 (.tmp 11) 1, 0, none) := by kernel_rfl
theorem p9_3_3 : pj (regOf Try.f9 3) 3 = some (some 13, .load 27 (.tmp 12), 27, none) := by kernel_rfl
theorem p9_3_4 : pj (regOf Try.f9 3) 4 = some (some 14, .call { callee := .builtin .len, args := #[.tmp 13], argTypes := #[27] }, 3, none) := by kernel_rfl
theorem p9_3_5 : pj (regOf Try.f9 3) 5 = some (some 5, .assign (.tmp 14), 3, none) := by kernel_rfl
theorem p9_4_0 : pj (regOf Try.f9 4) 0 = some (some 15, .move (.tmp 1), 35, none) := by kernel_rfl
theorem p9_4_1 : pj (regOf Try.f9 4) 1 = some (some 16, .call { callee := .builtin .len, args := #[.tmp 15], argTypes := #[35] }, 3, none) := by kernel_rfl
theorem p9_4_2 : pj (regOf Try.f9 4) 2 = some (some 17, .move (.const (.int .i64 0)), 3, none) := by kernel_rfl
theorem p9_5_0 : pj (regOf Try.f9 5) 0 = some (some 18, .binOp .lss 3 (.tmp 17) (.tmp 16) 3, 0, none) := by kernel_rfl
theorem p9_6_0 : pj (regOf Try.f9 6) 0 = some (some 19, .indexAddr 35 (.tmp 15) (.tmp 17), 0, none) := by kernel_rfl
theorem tS3 : (Try.prog.info? 3).map (·.size) = some 1 := by kernel_rfl
theorem p9_6_1 : pj (regOf Try.f9 6) 1 = some (some 20, .load 3 (.tmp 19), 3, none) := by kernel_rfl
theorem tA3 : (Try.prog.underlying 3).map aggD = some false := by kernel_rfl
theorem p9_6_2 : pj (regOf Try.f9 6) 2 = some (some 7, .assign (.tmp 20), 3, none) := by kernel_rfl
theorem p9_7_0 : pj (regOf Try.f9 7) 0 = some (some 21, .move (.tmp 0), 24, none) := by kernel_rfl
theorem p9_7_1 : pj (regOf Try.f9 7) 1 = some (some 22, .nilCheck (.tmp 21), 0, none) := by kernel_rfl
theorem p9_7_2 : pj (regOf Try.f9 7) 2 = some (some 23, .fieldAddr 29 (.tmp 22) 1, 0, none) := by kernel_rfl
theorem p9_7_3 : pj (regOf Try.f9 7) 3 = some (some 24, .load 27 (.tmp 23), 27, none) := by kernel_rfl
theorem p9_7_4 : pj (regOf Try.f9 7) 4 = some (some 25, .move (.tmp 7), 3, none) := by kernel_rfl
theorem p9_7_5 : pj (regOf Try.f9 7) 5 = some (none, .call { callee := .builtin .delete, args := #[.tmp 24, .tmp 25], argTypes := #[27, 3] }, 0, none) := by kernel_rfl
theorem p9_8_0 : pj (regOf Try.f9 8) 0 = some (some 26, .binOp .add 3 (.tmp 17) (.const (.int .i64 1)) 3, 3, none) := by kernel_rfl
theorem p9_8_1 : pj (regOf Try.f9 8) 1 = some (some 17, .move (.tmp 26), 3, none) := by kernel_rfl
theorem p9_9_0 : pj (regOf Try.f9 9) 0 = some (some 27, .move (.tmp 5), 3, none) := by kernel_rfl
theorem p9_9_1 : pj (regOf Try.f9 9) 1 = some (some 28, .move (.tmp 0), 24, none) := by kernel_rfl
theorem p9_9_2 : pj (regOf Try.f9 9) 2 = some (some 29, .nilCheck (.tmp 28), 0, none) := by kernel_rfl
theorem p9_9_3 : pj (regOf Try.f9 9) 3 = some (some 30, .fieldAddr 29 (.tmp 29) 1, 0, none) := by kernel_rfl
theorem p9_9_4 : pj (regOf Try.f9 9) 4 = some (some 31, .load 27 (.tmp 30), 27, none) := by kernel_rfl
theorem p9_9_5 : pj (regOf Try.f9 9) 5 = some (some 32, .call { callee := .builtin .len, args := #[.tmp 31], argTypes := #[27] }, 3, none) := by kernel_rfl
theorem p9_9_6 : pj (regOf Try.f9 9) 6 = some (some 33, .binOp .sub 3 (.tmp 27) (.tmp 32) 3, 3, none) := by kernel_rfl
theorem p9_9_7 : pj (regOf Try.f9 9) 7 = some (some 4, .assign (.tmp 33), 3, none) := by kernel_rfl
set_option maxHeartbeats 4000000 in
theorem cancel_nil (g : Nat) (now : Int) (b : Nat) (x y : Int) (w : World) (hb9 : w.heap[b]? = some (.cells #[.int .i64 x, .int .i64 y] 3 (0, 0))) (hgb : g ≠ b) (hg : w.heap[g]? = some (.cells #[.int .i64 now, .map none] 29 (0, 0))) : Calls Try.prog 9 #[.pointer (some ⟨g, 0, none⟩), .slice (some ⟨b, 0, none⟩) 2 2] w fun e w' => e = .returned (.int .i64 0) ∧ Kp w w' (fun _ => False) := by
  have K_0 := Kp.refl w (fun _ => False)
  have B_g := hg
  have B_b := hb9
  have n_g_b : g ≠ b := hgb
  refine enter (args := [Value.pointer (some ⟨g, 0, none⟩), Value.slice (some ⟨b, 0, none⟩) 2 2]) (n := 34) Try.func9 body9 rfl rfl rfl ?_
  intro a hE
  refine c_reg R9_0_l ?_
  refine q0 p9_0_0 hE (st_assign rfl) ?_
  clear hE a; intro a hE
  refine p_nil ?_
  refine x_norm ?_
  refine wp_seq ?_
  refine c_reg R9_1_l ?_
  refine q0 p9_1_0 hE (st_move rfl) ?_
  clear hE a; intro a hE
  refine q0 p9_1_1 hE (st_eqlP (b := false) tP24 rfl rfl rfl) ?_
  clear hE a; intro a hE
  refine p_nil ?_
  refine x_norm ?_
  refine c_cond (t := false) hE rfl ?_
  refine wp_skip ?_
  refine x_norm ?_
  refine c_reg R9_3_l ?_
  refine q0 p9_3_0 hE (st_move rfl) ?_
  clear hE a; intro a hE
  refine q0 p9_3_1 hE (st_nil rfl) ?_
  clear hE a; intro a hE
  refine q0 p9_3_2 hE (st_fieldAddr Try.underlying29 rfl tS27 rfl rfl) ?_
  clear hE a; intro a hE
  refine q0 p9_3_3 hE (st_load1 tA27 rfl ((blk_cell B_g 1).trans rfl)) ?_
  clear hE a; intro a hE
  refine q0 p9_3_4 hE (Mi.st_lenMN Try.underlying27 rfl) ?_
  clear hE a; intro a hE
  refine q0 p9_3_5 hE (st_assign rfl) ?_
  clear hE a; intro a hE
  refine p_nil ?_
  refine x_norm ?_
  refine wp_seq ?_
  refine c_reg R9_4_l ?_
  refine q0 p9_4_0 hE (st_move rfl) ?_
  clear hE a; intro a hE
  refine q0 p9_4_1 hE (st_len Try.underlying35 rfl) ?_
  clear hE a; intro a hE
  refine q0 p9_4_2 hE (st_move rfl) ?_
  clear hE a; intro a hE
  refine p_nil ?_
  refine x_norm ?_
  refine wp_block ?_
  refine wp_loop_rounds 3 ?_
  refine (Eq.mpr (rounds_succ (n := 2)) ?_)
  refine c_reg R9_5_l ?_
  refine q0 p9_5_0 hE (st_lss (b := true) rfl rfl (by decide)) ?_
  clear hE a; intro a hE
  refine p_nil ?_
  refine x_norm ?_
  refine wp_seq ?_
  refine c_cond (t := true) hE rfl ?_
  refine wp_skip ?_
  refine x_norm ?_
  refine wp_seq ?_
  refine wp_block ?_
  refine c_reg R9_6_l ?_
  refine q0 p9_6_0 hE (st_indexAddr (i := 0) Try.underlying35 tS3 rfl rfl (by decide) rfl) ?_
  clear hE a; intro a hE
  refine q0 p9_6_1 hE (st_load1 tA3 rfl ((blk_cell B_b 0).trans rfl)) ?_
  clear hE a; intro a hE
  refine q0 p9_6_2 hE (st_assign rfl) ?_
  clear hE a; intro a hE
  refine p_nil ?_
  refine x_norm ?_
  refine c_regL R9_7_l ?_
  refine q0 p9_7_0 hE (st_move rfl) ?_
  clear hE a; intro a hE
  refine q0 p9_7_1 hE (st_nil rfl) ?_
  clear hE a; intro a hE
  refine q0 p9_7_2 hE (st_fieldAddr Try.underlying29 rfl tS27 rfl rfl) ?_
  clear hE a; intro a hE
  refine q0 p9_7_3 hE (st_load1 tA27 rfl ((blk_cell B_g 1).trans rfl)) ?_
  clear hE a; intro a hE
  refine q0 p9_7_4 hE (st_move rfl) ?_
  clear hE a; intro a hE
  refine p_cons (Mi.s_delN p9_7_5 hE wn_none Try.underlying27 Try.underlying3 rfl rfl ?_)
  refine p_nil ?_
  refine x_normB ?_
  refine x_norm ?_
  refine c_regL R9_8_l ?_
  refine q0 p9_8_0 hE (st_add (z := 1) rfl rfl (by decide)) ?_
  clear hE a; intro a hE
  refine q0 p9_8_1 hE (st_move rfl) ?_
  clear hE a; intro a hE
  refine p_nil ?_
  refine x_norm ?_
  refine (Eq.mpr (rounds_succ (n := 1)) ?_)
  refine c_reg R9_5_l ?_
  refine q0 p9_5_0 hE (st_lss (b := true) rfl rfl (by decide)) ?_
  clear hE a; intro a hE
  refine p_nil ?_
  refine x_norm ?_
  refine wp_seq ?_
  refine c_cond (t := true) hE rfl ?_
  refine wp_skip ?_
  refine x_norm ?_
  refine wp_seq ?_
  refine wp_block ?_
  refine c_reg R9_6_l ?_
  refine q0 p9_6_0 hE (st_indexAddr (i := 1) Try.underlying35 tS3 rfl rfl (by decide) rfl) ?_
  clear hE a; intro a hE
  refine q0 p9_6_1 hE (st_load1 tA3 rfl ((blk_cell B_b 1).trans rfl)) ?_
  clear hE a; intro a hE
  refine q0 p9_6_2 hE (st_assign rfl) ?_
  clear hE a; intro a hE
  refine p_nil ?_
  refine x_norm ?_
  refine c_regL R9_7_l ?_
  refine q0 p9_7_0 hE (st_move rfl) ?_
  clear hE a; intro a hE
  refine q0 p9_7_1 hE (st_nil rfl) ?_
  clear hE a; intro a hE
  refine q0 p9_7_2 hE (st_fieldAddr Try.underlying29 rfl tS27 rfl rfl) ?_
  clear hE a; intro a hE
  refine q0 p9_7_3 hE (st_load1 tA27 rfl ((blk_cell B_g 1).trans rfl)) ?_
  clear hE a; intro a hE
  refine q0 p9_7_4 hE (st_move rfl) ?_
  clear hE a; intro a hE
  refine p_cons (Mi.s_delN p9_7_5 hE wn_none Try.underlying27 Try.underlying3 rfl rfl ?_)
  refine p_nil ?_
  refine x_normB ?_
  refine x_norm ?_
  refine c_regL R9_8_l ?_
  refine q0 p9_8_0 hE (st_add (z := 2) rfl rfl (by decide)) ?_
  clear hE a; intro a hE
  refine q0 p9_8_1 hE (st_move rfl) ?_
  clear hE a; intro a hE
  refine p_nil ?_
  refine x_norm ?_
  refine (Eq.mpr (rounds_succ (n := 0)) ?_)
  refine c_reg R9_5_l ?_
  refine q0 p9_5_0 hE (st_lss (b := false) rfl rfl (by decide)) ?_
  clear hE a; intro a hE
  refine p_nil ?_
  refine x_norm ?_
  refine wp_seq ?_
  refine c_cond (t := false) hE rfl ?_
  refine wp_exit ?_
  refine x_exit ?_
  refine x_exit ?_
  refine x_in ?_
  refine x_norm ?_
  refine c_reg R9_9_l ?_
  refine q0 p9_9_0 hE (st_move rfl) ?_
  clear hE a; intro a hE
  refine q0 p9_9_1 hE (st_move rfl) ?_
  clear hE a; intro a hE
  refine q0 p9_9_2 hE (st_nil rfl) ?_
  clear hE a; intro a hE
  refine q0 p9_9_3 hE (st_fieldAddr Try.underlying29 rfl tS27 rfl rfl) ?_
  clear hE a; intro a hE
  refine q0 p9_9_4 hE (st_load1 tA27 rfl ((blk_cell B_g 1).trans rfl)) ?_
  clear hE a; intro a hE
  refine q0 p9_9_5 hE (Mi.st_lenMN Try.underlying27 rfl) ?_
  clear hE a; intro a hE
  refine q0 p9_9_6 hE (st_sub (z := 0) rfl rfl (by decide)) ?_
  clear hE a; intro a hE
  refine q0 p9_9_7 hE (st_assign rfl) ?_
  clear hE a; intro a hE
  refine p_nil ?_
  refine x_norm ?_
  refine wp_ret ?_
  refine ret_one (v := Value.int .i64 0) rfl hE (.tmp rfl .nil) ?_
  exact ⟨rfl, K_0⟩
def mA (mb : Option Nat) : Option Addr := mb.map (fun k => ⟨k, 0, none⟩)
theorem ob_mA {mb : Option Nat} {k : Nat} : OB (mA mb) k ↔ mb = some k := by
  cases mb with
  | none => exact ⟨fun h => absurd h ob_nil, fun h => by cases h⟩
  | some m => exact ⟨fun h => by rw [ob_blk.1 h], fun h => by injection h with h; exact ob_blk.2 h⟩
/-- The map of a wheel. -/
def Wm (w : World) (mb : Option Nat) (l : LW) : Prop := match mb with
  | none => l = []
  | some gm => ∃ es ck, w.heap[gm]? = some (.map es ck) ∧ MapI (Value.int .i64) es ck l
theorem wm_keep {w w' : World} {mb : Option Nat} {l : LW} {S : Nat → Prop} (h : Wm w mb l) (hk : Kp w w' S) (hn : ∀ k, OB (mA mb) k → ¬ S k) : Wm w' mb l := by
  cases mb with
  | none => exact h
  | some m =>
    obtain ⟨es, ck, h1, h2⟩ := h
    exact ⟨es, ck, kp_blk h1 hk (hn m (ob_mA.2 rfl)), h2⟩
theorem wm_ob {w : World} {mb : Option Nat} {l : LW} (h : Wm w mb l) {k : Nat} (hk : OB (mA mb) k) : 0 ≤ k ∧ k < w.heap.size := by
  rw [ob_mA] at hk
  subst hk
  obtain ⟨es, ck, h1, _⟩ := h
  exact ⟨Nat.zero_le _, blk_lt h1⟩
theorem wm_nodup {w : World} {mb : Option Nat} {l : LW} (h : Wm w mb l) : (l.map (·.1)).Nodup := by
  cases mb with
  | none => have h2 : l = [] := h; subst h2; exact List.nodup_nil
  | some m => obtain ⟨es, ck, _, h2⟩ := h; exact h2.nodup
theorem ne_of {m g : Nat} (h : ¬ OB (mA (some m)) g) : g ≠ m := fun e => h (ob_mA.2 (by rw [e]))
theorem set_u (g : Nat) (now : Int) (mb : Option Nat) (l : LW) (x n : Int) (w : World) (hnow : 0 ≤ now ∧ now ≤ 2305843009213693952) (hg : w.heap[g]? = some (.cells #[.int .i64 now, .map mb] 29 (0, 0))) (hM : Wm w mb l) (hne : ¬ OB (mA mb) g) : Calls Try.prog 8 #[.pointer (some ⟨g, 0, none⟩), .int .i64 x, .int .i64 n] w fun e w' => ∃ mb', e = .returned (.int .i64 (codeW now x n)) ∧ w'.heap[g]? = some (.cells #[.int .i64 now, .map mb'] 29 (0, 0)) ∧ Wm w' mb' (setW l now x n) ∧ (∀ k, OB (mA mb') k → OB (mA mb) k ∨ w.heap.size ≤ k) ∧ Kp w w' (fun k => k = g ∨ OB (mA mb) k) := by
  cases mb with
  | none =>
    have hl : l = [] := hM
    subst hl
    refine (set_nil g now x n w hnow hg).mono ?_
    rintro e w' ⟨rfl, ⟨h0, h1, h2⟩ | ⟨gm, es, ck, h0, h1, h2, h3, h4, h5, h6⟩⟩
    · exact ⟨none, rfl, h1, by unfold setW; rw [if_neg h0]; exact rfl, fun k h => absurd h ob_nil, h2.mono (fun k h => .inl h)⟩
    · exact ⟨some gm, rfl, h3, ⟨es, ck, h4, by unfold setW; rw [if_pos h0]; exact h5⟩, fun k h => .inr (by rw [ob_mA] at h; injection h with h; omega), h6.mono (fun k h => .inl h)⟩
  | some m =>
    obtain ⟨es, ck, h1, h2⟩ := hM
    refine (set_map g m ck es l now x n w hnow hg h1 h2 (ne_of hne)).mono ?_
    rintro e w' ⟨es', ck', rfl, h3, h4, h5⟩
    exact ⟨some m, rfl, kp_blk hg h5 (fun q => ne_of hne q), ⟨es', ck', h4, h3⟩, fun k h => .inl h, h5.mono (fun k h => .inr (ob_mA.2 (by rw [h])))⟩
theorem cancel_u (g : Nat) (now : Int) (mb : Option Nat) (l : LW) (b : Nat) (x y : Int) (w : World) (hll : l.length ≤ 1000) (hb9 : w.heap[b]? = some (.cells #[.int .i64 x, .int .i64 y] 3 (0, 0))) (hgb : g ≠ b) (hg : w.heap[g]? = some (.cells #[.int .i64 now, .map mb] 29 (0, 0))) (hM : Wm w mb l) (hne : ¬ OB (mA mb) g) : Calls Try.prog 9 #[.pointer (some ⟨g, 0, none⟩), .slice (some ⟨b, 0, none⟩) 2 2] w fun e w' => e = .returned (.int .i64 ((l.length : Int) - ((delI (delI l x) y).length : Int))) ∧ Wm w' mb (delI (delI l x) y) ∧ Kp w w' (OB (mA mb)) := by
  cases mb with
  | none =>
    have hl : l = [] := hM
    subst hl
    refine (cancel_nil g now b x y w hb9 hgb hg).mono ?_
    rintro e w' ⟨rfl, h2⟩
    exact ⟨rfl, rfl, h2.mono (fun k h => h.elim)⟩
  | some m =>
    obtain ⟨es, ck, h1, h2⟩ := hM
    refine (cancel_any g m ck es l now b x y w hll hb9 hgb hg h1 h2 (ne_of hne)).mono ?_
    rintro e w' ⟨es', ck', rfl, h3, h4, h5⟩
    exact ⟨rfl, ⟨es', ck', h4, h3⟩, h5.mono (fun k h => ob_mA.2 (by rw [h]))⟩
theorem fire_nil0 (u : Int) : fireO u [] = [] ∧ (fireS u []).2 = [] := ⟨rfl, rfl⟩
theorem or_of {g m k : Nat} (h : k = g ∨ k = m) : k = g ∨ OB (mA (some m)) k := h.imp id (fun h => ob_mA.2 (by rw [h]))
theorem tick_u (g : Nat) (now : Int) (mb : Option Nat) (l : LW) (w : World) (hnow : 0 ≤ now ∧ now < 2305843009213693952) (hll : l.length ≤ 1000) (hg : w.heap[g]? = some (.cells #[.int .i64 now, .map mb] 29 (0, 0))) (hM : Wm w mb l) (hne : ¬ OB (mA mb) g) : Calls Try.prog 10 #[.pointer (some ⟨g, 0, none⟩)] w fun e w' => ∃ A c, e = .returned (.slice A (fireO (now + 1) l).length c) ∧ w'.ownsRow w.heap.size 3 1 (.slice A (fireO (now + 1) l).length c) (fireO (now + 1) l).length (encs (Value.int .i64) (fireO (now + 1) l)) ∧ w'.heap[g]? = some (.cells #[.int .i64 (now + 1), .map mb] 29 (0, 0)) ∧ Wm w' mb (fireS (now + 1) l).2 ∧ Kp w w' (fun k => k = g ∨ OB (mA mb) k) := by
  cases mb with
  | none =>
    have hl : l = [] := hM
    subst hl
    refine (tick_nil g now w hnow hg).mono ?_
    rintro e w' ⟨rfl, h1, h2⟩
    exact ⟨none, 0, rfl, own_none _ _ _ _, h1, rfl, h2.mono (fun k h => .inl h)⟩
  | some m =>
    obtain ⟨es, ck, h1, h2⟩ := hM
    refine (tick_any g m ck es l now w hnow hll hg h1 h2 (ne_of hne)).mono ?_
    rintro e w' ⟨A, c, es', ck', rfl, h3, h4, h5, h6, h7⟩
    exact ⟨A, c, rfl, h3, h6, ⟨es', ck', h5, h4⟩, h7.mono (fun k h => or_of h)⟩
theorem run_u (g : Nat) (now : Int) (mb : Option Nat) (l : LW) (n mn : Int) (w : World) (hmn : (if 2305843009213693952 - now < n then 2305843009213693952 - now else n) = mn) (hn : 0 ≤ n ∧ n ≤ 1099511627776) (hnow : 0 ≤ now ∧ now ≤ 2305843009213693952) (hll : l.length ≤ 1000) (hg : w.heap[g]? = some (.cells #[.int .i64 now, .map mb] 29 (0, 0))) (hM : Wm w mb l) (hne : ¬ OB (mA mb) g) : Calls Try.prog 13 #[.pointer (some ⟨g, 0, none⟩), .int .i64 n] w fun e w' => ∃ A c, e = .returned (.tuple #[.slice A (fireO (now + mn) l).length c, .int .i64 0]) ∧ w'.ownsRow w.heap.size 3 1 (.slice A (fireO (now + mn) l).length c) (fireO (now + mn) l).length (encs (Value.int .i64) (fireO (now + mn) l)) ∧ w'.heap[g]? = some (.cells #[.int .i64 (now + mn), .map mb] 29 (0, 0)) ∧ Wm w' mb (fireS (now + mn) l).2 ∧ Kp w w' (fun k => k = g ∨ OB (mA mb) k) := by
  cases mb with
  | none =>
    have hl : l = [] := hM
    subst hl
    refine (run_nil g now n mn w hmn hn hnow hg).mono ?_
    rintro e w' ⟨rfl, h1, h2⟩
    exact ⟨none, 0, rfl, own_none _ _ _ _, h1, rfl, h2.mono (fun k h => .inl h)⟩
  | some m =>
    obtain ⟨es, ck, h1, h2⟩ := hM
    refine (run_any g m ck es l now n mn w hmn hn hnow hll hg h1 h2 (ne_of hne)).mono ?_
    rintro e w' ⟨A, c, es', ck', rfl, h3, h4, h5, h6, h7⟩
    exact ⟨A, c, rfl, h3, h6, ⟨es', ck', h5, h4⟩, h7.mono (fun k h => or_of h)⟩
theorem next_u (g : Nat) (now : Int) (mb : Option Nat) (l : LW) (w : World) (hll : l.length ≤ 1000) (hg : w.heap[g]? = some (.cells #[.int .i64 now, .map mb] 29 (0, 0))) (hM : Wm w mb l) (hne : ¬ OB (mA mb) g) : Calls Try.prog 14 #[.pointer (some ⟨g, 0, none⟩)] w fun e w' => e = .returned (.tuple #[.int .i64 (nextP l).1, .int .i64 (nextP l).2]) ∧ Kp w w' (fun _ => False) := by
  cases mb with
  | none => have hl : l = [] := hM; subst hl; exact next_nil g now w hg
  | some m => obtain ⟨es, ck, h1, h2⟩ := hM; exact next_any g m ck es l now w hll hg h1 h2 (ne_of hne)
theorem len_u (g : Nat) (now : Int) (mb : Option Nat) (l : LW) (w : World) (hg : w.heap[g]? = some (.cells #[.int .i64 now, .map mb] 29 (0, 0))) (hM : Wm w mb l) (hne : ¬ OB (mA mb) g) : Calls Try.prog 16 #[.pointer (some ⟨g, 0, none⟩)] w fun e w' => e = .returned (.int .i64 (l.length : Int)) ∧ Kp w w' (fun _ => False) := by
  cases mb with
  | none => have hl : l = [] := hM; subst hl; exact len_nil g now w hg
  | some m => obtain ⟨es, ck, h1, h2⟩ := hM; exact len_any g m ck es l now w hg h1 h2 (ne_of hne)
theorem due_u (g : Nat) (now : Int) (mb : Option Nat) (l : LW) (x : Int) (w : World) (hg : w.heap[g]? = some (.cells #[.int .i64 now, .map mb] 29 (0, 0))) (hM : Wm w mb l) (hne : ¬ OB (mA mb) g) : Calls Try.prog 37 #[.pointer (some ⟨g, 0, none⟩), .int .i64 x] w fun e w' => e = .returned (.tuple #[.int .i64 (dueP l x).1, .int .i64 (dueP l x).2]) ∧ Kp w w' (fun _ => False) := by
  cases mb with
  | none => have hl : l = [] := hM; subst hl; exact due_nil g now x w hg
  | some m => obtain ⟨es, ck, h1, h2⟩ := hM; exact due_map g m ck es l now x w hg h1 h2 (ne_of hne)
theorem copy_u (g : Nat) (now : Int) (mb : Option Nat) (l : LW) (w : World) (hg : w.heap[g]? = some (.cells #[.int .i64 now, .map mb] 29 (0, 0))) (hM : Wm w mb l) (hne : ¬ OB (mA mb) g) : Calls Try.prog 12 #[.pointer (some ⟨g, 0, none⟩)] w fun e w' => ∃ b m, e = .returned (.pointer (some ⟨b, 0, none⟩)) ∧ w.heap.size ≤ b ∧ ¬ OB (mA m) b ∧ (∀ k, OB (mA m) k → w.heap.size ≤ k) ∧ w'.heap[b]? = some (.cells #[.int .i64 now, .map m] 29 (0, 0)) ∧ Wm w' m l ∧ Kp w w' (fun _ => False) := by
  cases mb with
  | none =>
    have hl : l = [] := hM
    subst hl
    refine (copy_nil g now w hg).mono ?_
    rintro e w' ⟨b, rfl, h1, h2, h3⟩
    exact ⟨b, none, rfl, h1, ob_nil, fun k h => absurd h ob_nil, h2, rfl, h3⟩
  | some m =>
    obtain ⟨es, ck, h1, h2⟩ := hM
    refine (copy_any g m ck es l now w hg h1 h2 (ne_of hne)).mono ?_
    rintro e w' ⟨b, m2, rfl, h3, h4, h5, h6, h7, h8⟩
    exact ⟨b, some m2, rfl, h3, fun q => h5 (by rw [ob_mA] at q; injection q with q; exact q.symm), fun k h => by rw [ob_mA] at h; injection h with h; omega, h6, ⟨es, ck, h7, h2⟩, h8⟩
end Go.Proofs.Ytlmjbmeigclihaa.Wu
