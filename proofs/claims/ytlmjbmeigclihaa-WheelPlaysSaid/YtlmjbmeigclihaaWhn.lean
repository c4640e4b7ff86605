/- Layer 10: WheelRuns. -/
import Derived.Test.YtlmjbmeigclihaaWhk
set_option maxRecDepth 100000
set_option linter.unusedVariables false
set_option linter.unusedSimpArgs false
namespace Go.Proofs.Ytlmjbmeigclihaa.Wr
open Go.RowKit Go.Maps Go.Sort Go.Shelf Go.Proofs.YtlmjbmeigclihaaW.PrintWords Go.Proofs.Ytlmjbmeigclihaa.Ds Go.Proofs.Ytlmjbmeigclihaa.Wp Go.Proofs.Ytlmjbmeigclihaa.Wh Go.Proofs.Ytlmjbmeigclihaa.Wo Go.Proofs.Ytlmjbmeigclihaa.KdOpen
open Go.Proofs.Ytlmjbmeigclihaa.Pk (Kp)
open Go.Proofs.Ytlmjbmeigclihaa.Mi (st_eqlP st_neqP x_normS x_retS x_exitS MapI getI putI delI)
theorem collect_nil {gk : Nat} (w : World) (hg : w.heap[gk]? = some (.cells #[.map none] 27 (0, 0))) :
    Calls Try.prog 47 #[.func (.func 56) #[] #[.pointer (some ⟨gk, 0, none⟩)]] w fun e w' => e = .returned (.slice none 0 0) ∧ Kp w w' (fun _ => False) := by
  have hseq : SeqGives Fence.wide 3 Try.prog 56 #[.pointer (some ⟨gk, 0, none⟩)] encZ (fun ss : List Int => ss = []) 0 w :=
    AnyZI.keys_gives_nil (ρ := Try.keysB_ren) { Try.keysB with } Fence.wide _ trivial rfl gk _ (blk_lt hg) (by rw [cell_of_row w gk 0 _ _ _ hg]; rfl)
  have cS := AnyZI.collect_in Try.collB Fence.wide 5 trivial trivial rfl (by omega) 56 #[.pointer (some ⟨gk, 0, none⟩)] trivial (enters_of Try.func56 (by kernel_rfl) rfl) _ 0 (Nat.zero_le _) (by omega) _ hseq
  refine ((callsIn_wide (n := 5)).1 cS).mono ?_
  rintro e w' ⟨v, ss, rfl, rfl, hrow, hnil, hb⟩
  exact ⟨by rw [hnil.2 rfl], Kp.of_below hb _⟩
theorem clone_nil (w : World) : Calls Try.prog 35 #[.map none] w fun e w' => e = .returned (.map none) ∧ Kp w w' (fun _ => False) := by
  refine (AnyW.maps_Clone_nil Try.cloneB w).mono ?_
  rintro e w' ⟨rfl, rfl⟩
  exact ⟨rfl, Kp.refl _ _⟩
theorem R36_0_l : List.range (regOf Try.f36 0).size = [0, 1, 2] := by kernel_rfl
theorem R36_1_l : List.range (regOf Try.f36 1).size = [0, 1, 2, 3, 4, 5, 6] := by kernel_rfl
theorem R36_2_l : List.range (regOf Try.f36 2).size = [0, 1, 2] := by kernel_rfl
theorem R36_3_l : List.range (regOf Try.f36 3).size = [0, 1] := by kernel_rfl
theorem R36_4_l : List.range (regOf Try.f36 4).size = [0, 1, 2, 3, 4] := by kernel_rfl
theorem body36 : Try.f36.body = some (.seq (.region 0 (regOf Try.f36 0) false) (.seq (.region 1 (regOf Try.f36 1) false) (.seq (.seq (.region 2 (regOf Try.f36 2) false) (.cond (Operand.tmp 13) (.seq (.region 3 (regOf Try.f36 3) false) (.ret)) (.skip))) (.seq (.region 4 (regOf Try.f36 4) false) (.ret))))) := by kernel_rfl
theorem p36_0_0 : pj (regOf Try.f36 0) 0 = some (some 1, .box 24 (.tmp 0), 0, none) := by kernel_rfl
theorem p36_0_1 : pj (regOf Try.f36 0) 1 = some (some 2, .assign (.const (.int .i64 0)), 3, none) := by kernel_rfl
theorem p36_0_2 : pj (regOf Try.f36 0) 2 = some (some 3, .assign (.const (.bool false)), 4, none) := by kernel_rfl
theorem p36_1_0 : pj (regOf Try.f36 1) 0 = some (some 5, .load 24 (.tmp 1), 24, none) := by kernel_rfl
theorem tA24 : (Try.prog.underlying 24).map aggD = some false := by kernel_rfl
theorem p36_1_1 : pj (regOf Try.f36 1) 1 = some (some 6, .nilCheck (.tmp 5), 0, none) := by kernel_rfl
theorem p36_1_2 : pj (regOf Try.f36 1) 2 = some (some 7, .fieldAddr 29 (.tmp 6) 1, 0, none) := by kernel_rfl
theorem tS27 : (Try.prog.info? 27).map (·.size) = some 1 := by kernel_rfl
theorem p36_1_3 : pj (regOf Try.f36 1) 3 = some (some 8, .load 27 (.tmp 7), 27, none) := by kernel_rfl
theorem tA27 : (Try.prog.underlying 27).map aggD = some false := by kernel_rfl
theorem p36_1_4 : pj (regOf Try.f36 1) 4 = some (some 9, .call { callee := .value (.func 48), args := #[.tmp 8], argTypes := #[27] }, 88, none) := by kernel_rfl
theorem cl48 : callable Try.f48 = true := by kernel_rfl
theorem p36_1_5 : pj (regOf Try.f36 1) 5 = some (some 10, .call { callee := .value (.func 47), args := #[.tmp 9], argTypes := #[88] }, 35, none) := by kernel_rfl
theorem cl47 : callable Try.f47 = true := by kernel_rfl
theorem p36_1_6 : pj (regOf Try.f36 1) 6 = some (some 4, .assign (.tmp 10), 35, none) := by kernel_rfl
theorem p36_2_0 : pj (regOf Try.f36 2) 0 = some (some 11, .move (.tmp 4), 35, none) := by kernel_rfl
theorem p36_2_1 : pj (regOf Try.f36 2) 1 = some (some 12, .call { callee := .builtin .len, args := #[.tmp 11], argTypes := #[35] }, 3, none) := by kernel_rfl
theorem p36_2_2 : pj (regOf Try.f36 2) 2 = some (some 13, .binOp .eql 3 (.tmp 12) (.const (.int .i64 0)) 3, 4, none) := by kernel_rfl
theorem p36_3_0 : pj (regOf Try.f36 3) 0 = some (some 2, .assign (.const (.int .i64 0)), 3, none) := by kernel_rfl
theorem p36_3_1 : pj (regOf Try.f36 3) 1 = some (some 3, .assign (.const (.bool false)), 4, none) := by kernel_rfl
set_option maxHeartbeats 4000000 in
theorem first_nil (g : Nat) (now : Int) (w : World) (hg : w.heap[g]? = some (.cells #[.int .i64 now, .map none] 29 (0, 0))) : Calls Try.prog 36 #[.pointer (some ⟨g, 0, none⟩)] w fun e w' => e = .returned (.tuple #[.int .i64 0, .bool false]) ∧ Kp w w' (fun _ => False) := by
  have K_0 := Kp.refl w (fun _ => False)
  have B_g := hg
  refine enter (args := [Value.pointer (some ⟨g, 0, none⟩)]) (n := 17) Try.func36 body36 rfl rfl rfl ?_
  intro a hE
  refine c_reg R36_0_l ?_
  refine p_cons (s_box p36_0_0 hE wn_none rfl rfl ?_)
  clear hE a; intro g1 w2 z3 B_g1 hk a hE
  replace B_g1 : w2.heap[g1]? = some (.cells #[Value.pointer (some ⟨g, 0, none⟩)] 24 (0, 0)) := B_g1
  have n_g_g1 : g ≠ g1 := ne_new B_g z3
  have z_0_g1 := Nat.le_trans K_0.kept.1 z3
  replace B_g := kp_blk B_g hk (fun h => h)
  replace K_0 := K_0.then_ hk (fun _ h => h.elim)
  clear hk
  refine q0 p36_0_1 hE (st_assign rfl) ?_
  clear hE a; intro a hE
  refine q0 p36_0_2 hE (st_assign rfl) ?_
  clear hE a; intro a hE
  refine p_nil ?_
  refine x_norm ?_
  refine c_reg R36_1_l ?_
  refine q0 p36_1_0 hE (st_load1 tA24 rfl ((blk_cell B_g1 0).trans rfl)) ?_
  clear hE a; intro a hE
  refine q0 p36_1_1 hE (st_nil rfl) ?_
  clear hE a; intro a hE
  refine q0 p36_1_2 hE (st_fieldAddr Try.underlying29 rfl tS27 rfl rfl) ?_
  clear hE a; intro a hE
  refine q0 p36_1_3 hE (st_load1 tA27 rfl ((blk_cell B_g 1).trans rfl)) ?_
  clear hE a; intro a hE
  refine p_cons (s_call (xs := [Operand.tmp 8]) (args := [Value.map none]) p36_1_4 hE wn_none rfl rfl Try.func48 cl48 (Mc.keys_any none _) ?_)
  rintro e w6 ⟨gk4, z5, rfl, B_gk4, hk⟩
  have n_g_gk4 : g ≠ gk4 := ne_new B_g z5
  have n_g1_gk4 : g1 ≠ gk4 := ne_new B_g1 z5
  have z_0_gk4 := Nat.le_trans K_0.kept.1 z5
  replace B_g := kp_blk B_g hk (fun h => h)
  replace B_g1 := kp_blk B_g1 hk (fun h => h)
  replace K_0 := K_0.then_ hk (fun _ h => h.elim)
  refine ⟨_, rfl, ?_⟩
  clear hE a; intro a hE
  refine p_cons (s_call (xs := [Operand.tmp 9]) (args := [Value.func (.func 56) #[] #[Value.pointer (some ⟨gk4, 0, none⟩)]]) p36_1_5 hE wn_none rfl rfl Try.func47 cl47 (collect_nil _ B_gk4) ?_)
  rintro e w7 ⟨rfl, hk⟩
  replace B_g := kp_blk B_g hk (fun h => h)
  replace B_g1 := kp_blk B_g1 hk (fun h => h)
  replace B_gk4 := kp_blk B_gk4 hk (fun h => h)
  replace K_0 := K_0.then_ hk (fun _ h => h.elim)
  refine ⟨_, rfl, ?_⟩
  clear hE a; intro a hE
  refine q0 p36_1_6 hE (st_assign rfl) ?_
  clear hE a; intro a hE
  refine p_nil ?_
  refine x_norm ?_
  refine wp_seq ?_
  refine c_reg R36_2_l ?_
  refine q0 p36_2_0 hE (st_move rfl) ?_
  clear hE a; intro a hE
  refine q0 p36_2_1 hE (st_len Try.underlying35 rfl) ?_
  clear hE a; intro a hE
  refine q0 p36_2_2 hE (st_eql (b := true) rfl rfl (by decide)) ?_
  clear hE a; intro a hE
  refine p_nil ?_
  refine x_norm ?_
  refine c_cond (t := true) hE rfl ?_
  refine c_reg R36_3_l ?_
  refine q0 p36_3_0 hE (st_assign rfl) ?_
  clear hE a; intro a hE
  refine q0 p36_3_1 hE (st_assign rfl) ?_
  clear hE a; intro a hE
  refine p_nil ?_
  refine x_norm ?_
  refine wp_ret ?_
  refine x_ret ?_
  refine ret_list (rs := [.tmp 2, .tmp 3]) (vs := [Value.int .i64 0, Value.bool false]) rfl hE (.tmp rfl (.tmp rfl .nil)) rfl ?_
  exact ⟨rfl, K_0⟩
theorem R34_0_l : List.range (regOf Try.f34 0).size = [0] := by kernel_rfl
theorem R34_1_l : List.range (regOf Try.f34 1).size = [0] := by kernel_rfl
theorem R34_2_l : List.range (regOf Try.f34 2).size = [0, 1, 2, 3, 4, 5, 6] := by kernel_rfl
theorem R34_3_l : List.range (regOf Try.f34 3).size = [0, 1, 2, 3, 4, 5, 6, 7, 8, 9, 10, 11, 12, 13, 14, 15] := by kernel_rfl
theorem R34_4_l : List.range (regOf Try.f34 4).size = [0, 1] := by kernel_rfl
theorem R34_5_l : List.range (regOf Try.f34 5).size = [0, 1, 2, 3, 4, 5] := by kernel_rfl
theorem R34_6_l : List.range (regOf Try.f34 6).size = [0, 1, 2, 3, 4] := by kernel_rfl
theorem body34 : Try.f34.body = some (.seq (.region 0 (regOf Try.f34 0) false) (.seq (.region 1 (regOf Try.f34 1) false) (.block 0 (.loop (.block 1 (.seq (.region 2 (regOf Try.f34 2) false) (.seq (.seq (.region 3 (regOf Try.f34 3) true) (.cond (Operand.tmp 26) (.seq (.region 4 (regOf Try.f34 4) false) (.ret)) (.skip))) (.seq (.region 5 (regOf Try.f34 5) false) (.region 6 (regOf Try.f34 6) false))))))))) := by kernel_rfl
theorem p34_0_0 : pj (regOf Try.f34 0) 0 = some (some 2, .assign (.const (.slice none 0 0)), 35, none) := by kernel_rfl
theorem p34_1_0 : pj (regOf Try.f34 1) 0 = some (some 3, .assign (.const (.slice none 0 0)), 35, none) := by kernel_rfl
theorem p34_2_0 : pj (regOf Try.f34 2) 0 = some (some 7, .move (.tmp 0), 24, none) := by kernel_rfl
theorem p34_2_1 : pj (regOf Try.f34 2) 1 = some (some 8, .call { callee := .value (.func 36), args := #[.tmp 7], argTypes := #[24] }, 74, none) := by kernel_rfl
theorem cl36 : callable Try.f36 = true := by kernel_rfl
theorem p34_2_2 : pj (regOf Try.f34 2) 2 = some (some 6, .move (.tmp 8), 74, none) := by kernel_rfl
theorem p34_2_3 : pj (regOf Try.f34 2) 3 = some (some 9, .extract (.tmp 6) 0, 3, none) := by kernel_rfl
theorem p34_2_4 : pj (regOf Try.f34 2) 4 = some (some 10, .extract (.tmp 6) 1, 4, none) := by kernel_rfl
theorem p34_2_5 : pj (regOf Try.f34 2) 5 = some (some 4, .assign (.tmp 9), 3, none) := by kernel_rfl
theorem p34_2_6 : pj (regOf Try.f34 2) 6 = some (some 5, .assign (.tmp 10), 4, none) := by kernel_rfl
theorem ns34_3 : Region.noSelect (regOf Try.f34 3) = true := by kernel_rfl
theorem p34_3_0 : pj (regOf Try.f34 3) 0 = some (some 11, .move (.tmp 5), 4, none) := by kernel_rfl
theorem p34_3_1 : pj (regOf Try.f34 3) 1 = some (some 12, .unOp .not 4 (.tmp 11), 4, none) := by kernel_rfl
theorem p34_3_2 : pj (regOf Try.f34 3) 2 = some (some 13, .move (.tmp 12), 4, none) := by kernel_rfl
theorem g34_3_2 : dstOf (regOf Try.f34 3) 2 = some 13 := by kernel_rfl
theorem p34_3_3 : pj (regOf Try.f34 3) 3 = some (some 14, .move (.tmp 0), 24, some (2, false)) := by kernel_rfl
theorem p34_3_4 : pj (regOf Try.f34 3) 4 = some (some 15, .nilCheck (.tmp 14), 0, some (2, false)) := by kernel_rfl
theorem p34_3_5 : pj (regOf Try.f34 3) 5 = some (some 16, .fieldAddr 29 (.tmp 15) 1, 0, some (2, false)) := by kernel_rfl
theorem p34_3_6 : pj (regOf Try.f34 3) 6 = some (some 17, .load 27 (.tmp 16), 27, some (2, false)) := by kernel_rfl
theorem p34_3_7 : pj (regOf Try.f34 3) 7 = some (some 18, .move (.tmp 4), 3, some (2, false)) := by kernel_rfl
theorem p34_3_8 : pj (regOf Try.f34 3) 8 = some (some 19, .lookup 27 (.tmp 17) (.tmp 18) false, 3, some (2, false)) := by kernel_rfl
theorem p34_3_9 : pj (regOf Try.f34 3) 9 = some (some 20, .move (.tmp 0), 24, some (2, false)) := by kernel_rfl
theorem p34_3_10 : pj (regOf Try.f34 3) 10 = some (some 21, .nilCheck (.tmp 20), 0, some (2, false)) := by kernel_rfl
theorem p34_3_11 : pj (regOf Try.f34 3) 11 = some (some 22, .fieldAddr 29 (.tmp 21) 0, 0, some (2, false)) := by kernel_rfl
theorem p34_3_12 : pj (regOf Try.f34 3) 12 = some (some 23, .fieldAddr 26 (.tmp 22) 0, 0, some (2, false)) := by kernel_rfl
theorem p34_3_13 : pj (regOf Try.f34 3) 13 = some (some 24, .load 3 (.tmp 23), 3, some (2, false)) := by kernel_rfl
theorem p34_3_14 : pj (regOf Try.f34 3) 14 = some (some 25, .binOp .gtr 3 (.tmp 19) (.tmp 24) 3, 4, some (2, false)) := by kernel_rfl
theorem p34_3_15 : pj (regOf Try.f34 3) 15 = some (some 26, .pick (.tmp 13) (.const (.bool true)) (.tmp 25), 4, none) := by kernel_rfl
theorem p34_4_0 : pj (regOf Try.f34 4) 0 = some (some 27, .move (.tmp 3), 35, none) := by kernel_rfl
theorem p34_4_1 : pj (regOf Try.f34 4) 1 = some (some 2, .assign (.tmp 27), 35, none) := by kernel_rfl
set_option maxHeartbeats 4000000 in
theorem fire_nil (g : Nat) (now : Int) (w : World) (hg : w.heap[g]? = some (.cells #[.int .i64 now, .map none] 29 (0, 0))) : Calls Try.prog 34 #[.pointer (some ⟨g, 0, none⟩)] w fun e w' => e = .returned (.slice none 0 0) ∧ Kp w w' (fun _ => False) := by
  have K_0 := Kp.refl w (fun _ => False)
  have B_g := hg
  refine enter (args := [Value.pointer (some ⟨g, 0, none⟩)]) (n := 37) Try.func34 body34 rfl rfl rfl ?_
  intro a hE
  refine c_reg R34_0_l ?_
  refine q0 p34_0_0 hE (st_assign rfl) ?_
  clear hE a; intro a hE
  refine p_nil ?_
  refine x_norm ?_
  refine c_reg R34_1_l ?_
  refine q0 p34_1_0 hE (st_assign rfl) ?_
  clear hE a; intro a hE
  refine p_nil ?_
  refine x_norm ?_
  refine wp_block ?_
  refine wp_loop_rounds 1 ?_
  refine (Eq.mpr (rounds_succ (n := 0)) ?_)
  refine wp_block ?_
  refine c_reg R34_2_l ?_
  refine q0 p34_2_0 hE (st_move rfl) ?_
  clear hE a; intro a hE
  refine p_cons (s_call (xs := [Operand.tmp 7]) (args := [Value.pointer (some ⟨g, 0, none⟩)]) p34_2_1 hE wn_none rfl rfl Try.func36 cl36 (first_nil g now _ B_g) ?_)
  rintro e w1 ⟨rfl, hk⟩
  replace B_g := kp_blk B_g hk (fun h => h)
  replace K_0 := K_0.then_ hk (fun _ h => h.elim)
  refine ⟨_, rfl, ?_⟩
  clear hE a; intro a hE
  refine q0 p34_2_2 hE (st_move rfl) ?_
  clear hE a; intro a hE
  refine q0 p34_2_3 hE (st_extract rfl rfl) ?_
  clear hE a; intro a hE
  refine q0 p34_2_4 hE (st_extract rfl rfl) ?_
  clear hE a; intro a hE
  refine q0 p34_2_5 hE (st_assign rfl) ?_
  clear hE a; intro a hE
  refine q0 p34_2_6 hE (st_assign rfl) ?_
  clear hE a; intro a hE
  refine p_nil ?_
  refine x_norm ?_
  refine wp_seq ?_
  refine c_drawS (S := fun W => W.heap[g]? = some (.cells #[Value.int .i64 now, Value.map none] 29 (0, 0)) ∧ True) rfl rfl (listed := #[false, false, false, false, false, false, false, false, false, false, false, false, false, false, false, false]) rfl ?_
  intro w2 hh hk
  replace B_g := kp_blk B_g hk (fun h => h)
  replace K_0 := K_0.then_ hk (fun _ h => h.elim)
  clear hh hk
  refine d_take (v := Value.bool false) p34_3_0 ns34_3 (by kernel_rfl) (by kernel_rfl) (fun _ _ _ h => h) hE wn_none rfl ⟨B_g, trivial⟩ (fun W hS => (st_move rfl)) rfl ?_
  clear hE a; intro a hE
  refine d_take (v := Value.bool true) p34_3_1 ns34_3 (by kernel_rfl) (by kernel_rfl) (fun _ _ _ h => h) hE wn_none rfl ⟨B_g, trivial⟩ (fun W hS => (st_not rfl rfl)) rfl ?_
  clear hE a; intro a hE
  refine d_take (v := Value.bool true) p34_3_2 ns34_3 (by kernel_rfl) (by kernel_rfl) (fun _ _ _ h => h) hE wn_none rfl ⟨B_g, trivial⟩ (fun W hS => (st_move rfl)) rfl ?_
  clear hE a; intro a hE
  refine d_skip p34_3_3 ns34_3 (by kernel_rfl) (by kernel_rfl) (fun _ _ _ h => h) hE (wn_some g34_3_2 rfl rfl) rfl ⟨B_g, trivial⟩ rfl ?_
  clear hE a; intro a hE
  refine d_skip p34_3_4 ns34_3 (by kernel_rfl) (by kernel_rfl) (fun _ _ _ h => h) hE (wn_some g34_3_2 rfl rfl) rfl ⟨B_g, trivial⟩ rfl ?_
  clear hE a; intro a hE
  refine d_skip p34_3_5 ns34_3 (by kernel_rfl) (by kernel_rfl) (fun _ _ _ h => h) hE (wn_some g34_3_2 rfl rfl) rfl ⟨B_g, trivial⟩ rfl ?_
  clear hE a; intro a hE
  refine d_skip p34_3_6 ns34_3 (by kernel_rfl) (by kernel_rfl) (fun _ _ _ h => h) hE (wn_some g34_3_2 rfl rfl) rfl ⟨B_g, trivial⟩ rfl ?_
  clear hE a; intro a hE
  refine d_skip p34_3_7 ns34_3 (by kernel_rfl) (by kernel_rfl) (fun _ _ _ h => h) hE (wn_some g34_3_2 rfl rfl) rfl ⟨B_g, trivial⟩ rfl ?_
  clear hE a; intro a hE
  refine d_skip p34_3_8 ns34_3 (by kernel_rfl) (by kernel_rfl) (fun _ _ _ h => h) hE (wn_some g34_3_2 rfl rfl) rfl ⟨B_g, trivial⟩ rfl ?_
  clear hE a; intro a hE
  refine d_skip p34_3_9 ns34_3 (by kernel_rfl) (by kernel_rfl) (fun _ _ _ h => h) hE (wn_some g34_3_2 rfl rfl) rfl ⟨B_g, trivial⟩ rfl ?_
  clear hE a; intro a hE
  refine d_skip p34_3_10 ns34_3 (by kernel_rfl) (by kernel_rfl) (fun _ _ _ h => h) hE (wn_some g34_3_2 rfl rfl) rfl ⟨B_g, trivial⟩ rfl ?_
  clear hE a; intro a hE
  refine d_skip p34_3_11 ns34_3 (by kernel_rfl) (by kernel_rfl) (fun _ _ _ h => h) hE (wn_some g34_3_2 rfl rfl) rfl ⟨B_g, trivial⟩ rfl ?_
  clear hE a; intro a hE
  refine d_skip p34_3_12 ns34_3 (by kernel_rfl) (by kernel_rfl) (fun _ _ _ h => h) hE (wn_some g34_3_2 rfl rfl) rfl ⟨B_g, trivial⟩ rfl ?_
  clear hE a; intro a hE
  refine d_skip p34_3_13 ns34_3 (by kernel_rfl) (by kernel_rfl) (fun _ _ _ h => h) hE (wn_some g34_3_2 rfl rfl) rfl ⟨B_g, trivial⟩ rfl ?_
  clear hE a; intro a hE
  refine d_skip p34_3_14 ns34_3 (by kernel_rfl) (by kernel_rfl) (fun _ _ _ h => h) hE (wn_some g34_3_2 rfl rfl) rfl ⟨B_g, trivial⟩ rfl ?_
  clear hE a; intro a hE
  refine d_take (v := Value.bool true) p34_3_15 ns34_3 (by kernel_rfl) (by kernel_rfl) (fun _ _ _ h => h) hE wn_none rfl ⟨B_g, trivial⟩ (fun W hS => (st_pick rfl rfl)) rfl ?_
  clear hE a; intro a hE
  refine d_end (by kernel_rfl) ?_
  refine x_norm ?_
  refine c_cond (t := true) hE rfl ?_
  refine c_reg R34_4_l ?_
  refine q0 p34_4_0 hE (st_move rfl) ?_
  clear hE a; intro a hE
  refine q0 p34_4_1 hE (st_assign rfl) ?_
  clear hE a; intro a hE
  refine p_nil ?_
  refine x_norm ?_
  refine wp_ret ?_
  refine x_ret ?_
  refine x_retB ?_
  refine x_ret ?_
  refine x_retB ?_
  refine ret_one (v := Value.slice none 0 0) rfl hE (.tmp rfl .nil) ?_
  exact ⟨rfl, K_0⟩
theorem R10_0_l : List.range (regOf Try.f10 0).size = [0] := by kernel_rfl
theorem R10_1_l : List.range (regOf Try.f10 1).size = [0, 1, 2, 3, 4, 5, 6, 7, 8] := by kernel_rfl
theorem R10_2_l : List.range (regOf Try.f10 2).size = [0] := by kernel_rfl
theorem R10_3_l : List.range (regOf Try.f10 3).size = [0, 1, 2, 3, 4, 5, 6, 7, 8, 9] := by kernel_rfl
theorem R10_4_l : List.range (regOf Try.f10 4).size = [0, 1, 2] := by kernel_rfl
theorem body10 : Try.f10.body = some (.seq (.region 0 (regOf Try.f10 0) false) (.seq (.seq (.region 1 (regOf Try.f10 1) false) (.cond (Operand.tmp 11) (.seq (.region 2 (regOf Try.f10 2) false) (.ret)) (.skip))) (.seq (.region 3 (regOf Try.f10 3) false) (.seq (.region 4 (regOf Try.f10 4) false) (.ret))))) := by kernel_rfl
theorem p10_0_0 : pj (regOf Try.f10 0) 0 = some (some 2, .assign (.const (.slice none 0 0)), 35, none) := by kernel_rfl
theorem p10_1_0 : pj (regOf Try.f10 1) 0 = some (some 3, .move (.tmp 0), 24, none) := by kernel_rfl
theorem p10_1_1 : pj (regOf Try.f10 1) 1 = some (some 4, .binOp .eql 24 (.tmp 3) (.const (.pointer none)) 24, 4, none) := by kernel_rfl
theorem tP24 : Try.prog.underlying 24 = some (.pointer (Try.prog.pointee 24)) := by kernel_rfl
theorem p10_1_2 : pj (regOf Try.f10 1) 2 = some (some 5, .move (.tmp 4), 4, none) := by kernel_rfl
theorem p10_1_3 : pj (regOf Try.f10 1) 3 = some (some 6, .move (.tmp 0), 24, some (2, false)) := by kernel_rfl
theorem g10_1_2 : dstOf (regOf Try.f10 1) 2 = some 5 := by kernel_rfl
theorem p10_1_4 : pj (regOf Try.f10 1) 4 = some (some 7, .nilCheck (.tmp 6), 0, some (2, false)) := by kernel_rfl
theorem p10_1_5 : pj (regOf Try.f10 1) 5 = some (some 8, .fieldAddr 29 (.tmp 7) 0, 0, some (2, false)) := by kernel_rfl
theorem tS26 : (Try.prog.info? 26).map (·.size) = some 1 := by kernel_rfl
theorem p10_1_6 : pj (regOf Try.f10 1) 6 = some (some 9, .call { callee := .value (.func 33), args := #[.tmp 8], argTypes := #[26] }, 4, some (2, false)) := by kernel_rfl
theorem cl33 : callable Try.f33 = true := by kernel_rfl
theorem p10_1_7 : pj (regOf Try.f10 1) 7 = some (some 10, .unOp .not 4 (.tmp 9), 4, some (2, false)) := by kernel_rfl
theorem p10_1_8 : pj (regOf Try.f10 1) 8 = some (some 11, .pick (.tmp 5) (.const (.bool true)) (.tmp 10), 4, none) := by kernel_rfl
theorem p10_3_0 : pj (regOf Try.f10 3) 0 = some (some 12, .move (.tmp 0), 24, none) := by kernel_rfl
theorem p10_3_1 : pj (regOf Try.f10 3) 1 = some (some 13, .nilCheck (.tmp 12), 0, none) := by kernel_rfl
theorem p10_3_2 : pj (regOf Try.f10 3) 2 = some (some 14, .fieldAddr 29 (.tmp 13) 0, 0, none) := by kernel_rfl
theorem p10_3_3 : pj (regOf Try.f10 3) 3 = some (some 15, .fieldAddr 26 (.tmp 14) 0, 0, none) := by kernel_rfl
theorem tS3 : (Try.prog.info? 3).map (·.size) = some 1 := by kernel_rfl
theorem p10_3_4 : pj (regOf Try.f10 3) 4 = some (some 16, .load 3 (.tmp 15), 3, none) := by kernel_rfl
theorem tA3 : (Try.prog.underlying 3).map aggD = some false := by kernel_rfl
theorem p10_3_5 : pj (regOf Try.f10 3) 5 = some (some 17, .binOp .add 3 (.tmp 16) (.const (.int .i64 1)) 3, 3, none) := by kernel_rfl
theorem p10_3_6 : pj (regOf Try.f10 3) 6 = some (some 18, .nilCheck (.tmp 12), 0, none) := by kernel_rfl
theorem p10_3_7 : pj (regOf Try.f10 3) 7 = some (some 19, .fieldAddr 29 (.tmp 18) 0, 0, none) := by kernel_rfl
theorem p10_3_8 : pj (regOf Try.f10 3) 8 = some (some 20, .fieldAddr 26 (.tmp 19) 0, 0, none) := by kernel_rfl
theorem p10_3_9 : pj (regOf Try.f10 3) 9 = some (none, .store 3 (.tmp 20) (.tmp 17), 0, none) := by kernel_rfl
theorem p10_4_0 : pj (regOf Try.f10 4) 0 = some (some 21, .move (.tmp 0), 24, none) := by kernel_rfl
theorem p10_4_1 : pj (regOf Try.f10 4) 1 = some (some 22, .call { callee := .value (.func 34), args := #[.tmp 21], argTypes := #[24] }, 35, none) := by kernel_rfl
theorem cl34 : callable Try.f34 = true := by kernel_rfl
theorem p10_4_2 : pj (regOf Try.f10 4) 2 = some (some 2, .assign (.tmp 22), 35, none) := by kernel_rfl
set_option maxHeartbeats 4000000 in
theorem tick_nil (g : Nat) (now : Int) (w : World) (hnow : 0 ≤ now ∧ now < 2305843009213693952) (hg : w.heap[g]? = some (.cells #[.int .i64 now, .map none] 29 (0, 0))) : Calls Try.prog 10 #[.pointer (some ⟨g, 0, none⟩)] w fun e w' => e = .returned (.slice none 0 0) ∧ w'.heap[g]? = some (.cells #[.int .i64 (now + 1), .map none] 29 (0, 0)) ∧ Kp w w' (fun k => k = g) := by
  have K_0 := Kp.refl w (fun k => k = g)
  have B_g := hg
  refine enter (args := [Value.pointer (some ⟨g, 0, none⟩)]) (n := 23) Try.func10 body10 rfl rfl rfl ?_
  intro a hE
  refine c_reg R10_0_l ?_
  refine q0 p10_0_0 hE (st_assign rfl) ?_
  clear hE a; intro a hE
  refine p_nil ?_
  refine x_norm ?_
  refine wp_seq ?_
  refine c_reg R10_1_l ?_
  refine q0 p10_1_0 hE (st_move rfl) ?_
  clear hE a; intro a hE
  refine q0 p10_1_1 hE (st_eqlP (b := false) tP24 rfl rfl rfl) ?_
  clear hE a; intro a hE
  refine q0 p10_1_2 hE (st_move rfl) ?_
  clear hE a; intro a hE
  refine p_cons (s_still p10_1_3 hE (wn_some g10_1_2 rfl rfl) rfl (st_move rfl) ?_)
  clear hE a; intro a hE
  refine p_cons (s_still p10_1_4 hE (wn_some g10_1_2 rfl rfl) rfl (st_nil rfl) ?_)
  clear hE a; intro a hE
  refine p_cons (s_still p10_1_5 hE (wn_some g10_1_2 rfl rfl) rfl (st_fieldAddr Try.underlying29 rfl tS26 rfl rfl) ?_)
  clear hE a; intro a hE
  refine p_cons (s_call (xs := [Operand.tmp 8]) (args := [Value.pointer (some ⟨g, 0, none⟩)]) p10_1_6 hE (wn_some g10_1_2 rfl rfl) rfl rfl Try.func33 cl33 (may_yes g now (Value.map none) _ hnow.2 B_g) ?_)
  rintro e w1 ⟨rfl, hk⟩
  replace B_g := kp_blk B_g hk (fun h => h)
  replace K_0 := K_0.then_ hk (fun _ h => h.elim)
  refine ⟨_, rfl, ?_⟩
  clear hE a; intro a hE
  refine p_cons (s_still p10_1_7 hE (wn_some g10_1_2 rfl rfl) rfl (st_not rfl rfl) ?_)
  clear hE a; intro a hE
  refine q0 p10_1_8 hE (st_pick rfl rfl) ?_
  clear hE a; intro a hE
  refine p_nil ?_
  refine x_norm ?_
  refine c_cond (t := false) hE rfl ?_
  refine wp_skip ?_
  refine x_norm ?_
  refine c_reg R10_3_l ?_
  refine q0 p10_3_0 hE (st_move rfl) ?_
  clear hE a; intro a hE
  refine q0 p10_3_1 hE (st_nil rfl) ?_
  clear hE a; intro a hE
  refine q0 p10_3_2 hE (st_fieldAddr Try.underlying29 rfl tS26 rfl rfl) ?_
  clear hE a; intro a hE
  refine q0 p10_3_3 hE (st_fieldAddr Try.underlying26 rfl tS3 rfl rfl) ?_
  clear hE a; intro a hE
  refine q0 p10_3_4 hE (st_load1 tA3 rfl ((blk_cell B_g 0).trans rfl)) ?_
  clear hE a; intro a hE
  refine q0 p10_3_5 hE (st_add (z := now + 1) rfl rfl (wr_i64 _ (by omega) (by omega))) ?_
  clear hE a; intro a hE
  refine q0 p10_3_6 hE (st_nil rfl) ?_
  clear hE a; intro a hE
  refine q0 p10_3_7 hE (st_fieldAddr Try.underlying29 rfl tS26 rfl rfl) ?_
  clear hE a; intro a hE
  refine q0 p10_3_8 hE (st_fieldAddr Try.underlying26 rfl tS3 rfl rfl) ?_
  clear hE a; intro a hE
  refine p_cons (s_store (off := 0) (k := 1) (cs' := #[Value.int .i64 (now + 1), Value.map none]) p10_3_9 hE wn_none tS3 rfl rfl rfl rfl B_g (Nat.le_of_ble_eq_true rfl) rfl ?_)
  intro w2 B_g' hk
  replace K_0 := K_0.then_ hk (fun k h => by rw [show k = g from h]; exact Or.inl rfl)
  replace B_g := B_g'
  clear hk
  refine p_nil ?_
  refine x_norm ?_
  refine c_reg R10_4_l ?_
  refine q0 p10_4_0 hE (st_move rfl) ?_
  clear hE a; intro a hE
  refine p_cons (s_call (xs := [Operand.tmp 21]) (args := [Value.pointer (some ⟨g, 0, none⟩)]) p10_4_1 hE wn_none rfl rfl Try.func34 cl34 (fire_nil g (now + 1) _ B_g) ?_)
  rintro e w3 ⟨rfl, hk⟩
  replace B_g := kp_blk B_g hk (fun h => h)
  replace K_0 := K_0.then_ hk (fun _ h => h.elim)
  refine ⟨_, rfl, ?_⟩
  clear hE a; intro a hE
  refine q0 p10_4_2 hE (st_assign rfl) ?_
  clear hE a; intro a hE
  refine p_nil ?_
  refine x_norm ?_
  refine wp_ret ?_
  refine ret_one (v := Value.slice none 0 0) rfl hE (.tmp rfl .nil) ?_
  exact ⟨rfl, B_g, K_0⟩
theorem R13_0_l : List.range (regOf Try.f13 0).size = [0, 1] := by kernel_rfl
theorem R13_1_l : List.range (regOf Try.f13 1).size = [0, 1, 2] := by kernel_rfl
theorem R13_2_l : List.range (regOf Try.f13 2).size = [0, 1] := by kernel_rfl
theorem R13_3_l : List.range (regOf Try.f13 3).size = [0, 1, 2, 3, 4, 5, 6] := by kernel_rfl
theorem R13_4_l : List.range (regOf Try.f13 4).size = [0, 1] := by kernel_rfl
theorem R13_5_l : List.range (regOf Try.f13 5).size = [0, 1, 2, 3, 4, 5, 6, 7, 8, 9, 10, 11, 12, 13, 14, 15, 16, 17] := by kernel_rfl
theorem R13_6_l : List.range (regOf Try.f13 6).size = [0, 1, 2, 3] := by kernel_rfl
theorem body13 : Try.f13.body = some (.seq (.region 0 (regOf Try.f13 0) false) (.seq (.block 0 (.seq (.region 1 (regOf Try.f13 1) false) (.cond (Operand.tmp 6) (.seq (.region 2 (regOf Try.f13 2) false) (.ret)) (.seq (.region 3 (regOf Try.f13 3) false) (.cond (Operand.tmp 9) (.seq (.region 4 (regOf Try.f13 4) false) (.ret)) (.skip)))))) (.seq (.region 5 (regOf Try.f13 5) true) (.seq (.region 6 (regOf Try.f13 6) false) (.ret))))) := by kernel_rfl
theorem p13_0_0 : pj (regOf Try.f13 0) 0 = some (some 4, .assign (.const (.slice none 0 0)), 35, none) := by kernel_rfl
theorem p13_0_1 : pj (regOf Try.f13 0) 1 = some (some 5, .assign (.const (.int .i64 0)), 30, none) := by kernel_rfl
theorem p13_1_0 : pj (regOf Try.f13 1) 0 = some (some 7, .move (.tmp 0), 24, none) := by kernel_rfl
theorem p13_1_1 : pj (regOf Try.f13 1) 1 = some (some 8, .binOp .eql 24 (.tmp 7) (.const (.pointer none)) 24, 4, none) := by kernel_rfl
theorem p13_1_2 : pj (regOf Try.f13 1) 2 = some (some 6, .assign (.tmp 8), 4, none) := by kernel_rfl
theorem p13_3_0 : pj (regOf Try.f13 3) 0 = some (some 10, .move (.tmp 1), 3, none) := by kernel_rfl
theorem p13_3_1 : pj (regOf Try.f13 3) 1 = some (some 11, .binOp .lss 3 (.tmp 10) (.const (.int .i64 0)) 3, 4, none) := by kernel_rfl
theorem p13_3_2 : pj (regOf Try.f13 3) 2 = some (some 12, .move (.tmp 11), 4, none) := by kernel_rfl
theorem p13_3_3 : pj (regOf Try.f13 3) 3 = some (some 13, .move (.tmp 1), 3, some (2, false)) := by kernel_rfl
theorem g13_3_2 : dstOf (regOf Try.f13 3) 2 = some 12 := by kernel_rfl
theorem p13_3_4 : pj (regOf Try.f13 3) 4 = some (some 14, .binOp .gtr 3 (.tmp 13) (.const (.int .i64 1099511627776)) 3, 4, some (2, false)) := by kernel_rfl
theorem p13_3_5 : pj (regOf Try.f13 3) 5 = some (some 15, .pick (.tmp 12) (.const (.bool true)) (.tmp 14), 4, none) := by kernel_rfl
theorem p13_3_6 : pj (regOf Try.f13 3) 6 = some (some 9, .assign (.tmp 15), 4, none) := by kernel_rfl
theorem ns13_5 : Region.noSelect (regOf Try.f13 5) = true := by kernel_rfl
theorem p13_5_0 : pj (regOf Try.f13 5) 0 = some (some 16, .move (.tmp 0), 24, none) := by kernel_rfl
theorem p13_5_1 : pj (regOf Try.f13 5) 1 = some (some 17, .nilCheck (.tmp 16), 0, none) := by kernel_rfl
theorem p13_5_2 : pj (regOf Try.f13 5) 2 = some (some 18, .fieldAddr 29 (.tmp 17) 0, 0, none) := by kernel_rfl
theorem p13_5_3 : pj (regOf Try.f13 5) 3 = some (some 19, .fieldAddr 26 (.tmp 18) 0, 0, none) := by kernel_rfl
theorem p13_5_5 : pj (regOf Try.f13 5) 5 = some (some 21, .move (.tmp 1), 3, none) := by kernel_rfl
theorem p13_5_6 : pj (regOf Try.f13 5) 6 = some (some 22, .move (.tmp 0), 24, none) := by kernel_rfl
theorem p13_5_7 : pj (regOf Try.f13 5) 7 = some (some 23, .nilCheck (.tmp 22), 0, none) := by kernel_rfl
theorem p13_5_8 : pj (regOf Try.f13 5) 8 = some (some 24, .fieldAddr 29 (.tmp 23) 0, 0, none) := by kernel_rfl
theorem p13_5_9 : pj (regOf Try.f13 5) 9 = some (some 25, .fieldAddr 26 (.tmp 24) 0, 0, none) := by kernel_rfl
theorem p13_5_4 : pj (regOf Try.f13 5) 4 = some (some 20, .load 3 (.tmp 19), 3, none) := by kernel_rfl
theorem p13_5_10 : pj (regOf Try.f13 5) 10 = some (some 26, .load 3 (.tmp 25), 3, none) := by kernel_rfl
theorem p13_5_11 : pj (regOf Try.f13 5) 11 = some (some 27, .binOp .sub 3 (.const (.int .i64 2305843009213693952)) (.tmp 26) 3, 3, none) := by kernel_rfl
theorem p13_5_12 : pj (regOf Try.f13 5) 12 = some (some 28, .call { callee := .builtin .min, args := #[.tmp 21, .tmp 27], argTypes := #[3, 3] }, 3, none) := by kernel_rfl
theorem p13_5_13 : pj (regOf Try.f13 5) 13 = some (some 29, .binOp .add 3 (.tmp 20) (.tmp 28) 3, 3, none) := by kernel_rfl
theorem p13_5_14 : pj (regOf Try.f13 5) 14 = some (some 30, .nilCheck (.tmp 16), 0, none) := by kernel_rfl
theorem p13_5_15 : pj (regOf Try.f13 5) 15 = some (some 31, .fieldAddr 29 (.tmp 30) 0, 0, none) := by kernel_rfl
theorem p13_5_16 : pj (regOf Try.f13 5) 16 = some (some 32, .fieldAddr 26 (.tmp 31) 0, 0, none) := by kernel_rfl
theorem p13_5_17 : pj (regOf Try.f13 5) 17 = some (none, .store 3 (.tmp 32) (.tmp 29), 0, none) := by kernel_rfl
theorem p13_6_0 : pj (regOf Try.f13 6) 0 = some (some 33, .move (.tmp 0), 24, none) := by kernel_rfl
theorem p13_6_1 : pj (regOf Try.f13 6) 1 = some (some 34, .call { callee := .value (.func 34), args := #[.tmp 33], argTypes := #[24] }, 35, none) := by kernel_rfl
theorem p13_6_2 : pj (regOf Try.f13 6) 2 = some (some 4, .assign (.tmp 34), 35, none) := by kernel_rfl
theorem p13_6_3 : pj (regOf Try.f13 6) 3 = some (some 5, .assign (.const (.int .i64 0)), 30, none) := by kernel_rfl
set_option maxHeartbeats 4000000 in
theorem run_nil (g : Nat) (now : Int) (n mn : Int) (w : World) (hmn : (if 2305843009213693952 - now < n then 2305843009213693952 - now else n) = mn) (hn : 0 ≤ n ∧ n ≤ 1099511627776) (hnow : 0 ≤ now ∧ now ≤ 2305843009213693952) (hg : w.heap[g]? = some (.cells #[.int .i64 now, .map none] 29 (0, 0))) : Calls Try.prog 13 #[.pointer (some ⟨g, 0, none⟩), .int .i64 n] w fun e w' => e = .returned (.tuple #[.slice none 0 0, .int .i64 0]) ∧ w'.heap[g]? = some (.cells #[.int .i64 (now + mn), .map none] 29 (0, 0)) ∧ Kp w w' (fun k => k = g) := by
  have K_0 := Kp.refl w (fun k => k = g)
  have B_g := hg
  have hmb : 0 ≤ mn ∧ now + mn ≤ 2305843009213693952 := by rw [← hmn]; split <;> omega
  refine enter (args := [Value.pointer (some ⟨g, 0, none⟩), Value.int .i64 n]) (n := 35) Try.func13 body13 rfl rfl rfl ?_
  intro a hE
  refine c_reg R13_0_l ?_
  refine q0 p13_0_0 hE (st_assign rfl) ?_
  clear hE a; intro a hE
  refine q0 p13_0_1 hE (st_assign rfl) ?_
  clear hE a; intro a hE
  refine p_nil ?_
  refine x_norm ?_
  refine wp_seq ?_
  refine wp_block ?_
  refine c_reg R13_1_l ?_
  refine q0 p13_1_0 hE (st_move rfl) ?_
  clear hE a; intro a hE
  refine q0 p13_1_1 hE (st_eqlP (b := false) tP24 rfl rfl rfl) ?_
  clear hE a; intro a hE
  refine q0 p13_1_2 hE (st_assign rfl) ?_
  clear hE a; intro a hE
  refine p_nil ?_
  refine x_norm ?_
  refine c_cond (t := false) hE rfl ?_
  refine c_reg R13_3_l ?_
  refine q0 p13_3_0 hE (st_move rfl) ?_
  clear hE a; intro a hE
  refine q0 p13_3_1 hE (st_lss (b := false) rfl rfl (decide_eq_false (by omega))) ?_
  clear hE a; intro a hE
  refine q0 p13_3_2 hE (st_move rfl) ?_
  clear hE a; intro a hE
  refine p_cons (s_still p13_3_3 hE (wn_some g13_3_2 rfl rfl) rfl (st_move rfl) ?_)
  clear hE a; intro a hE
  refine p_cons (s_still p13_3_4 hE (wn_some g13_3_2 rfl rfl) rfl (st_gtr (b := false) rfl rfl (decide_eq_false (by omega))) ?_)
  clear hE a; intro a hE
  refine q0 p13_3_5 hE (st_pick rfl rfl) ?_
  clear hE a; intro a hE
  refine q0 p13_3_6 hE (st_assign rfl) ?_
  clear hE a; intro a hE
  refine p_nil ?_
  refine x_norm ?_
  refine c_cond (t := false) hE rfl ?_
  refine wp_skip ?_
  refine x_normB ?_
  refine x_norm ?_
  refine c_drawMS (S := fun W => True) rfl rfl (listed := #[false, false, false, false, false, false, false, false, false, false, false, false, false, false, false, false, false, false]) rfl pan_body (fun QQ hQ hend => ?_)
  have dr5_4 : ∀ (W : World) (a : Act), En 35 a [(0, Value.pointer (some ⟨g, 0, none⟩)), (1, Value.int .i64 n), (4, Value.slice none 0 0), (5, Value.int .i64 0), (6, Value.bool false), (9, Value.bool false), (16, Value.pointer (some ⟨g, 0, none⟩)), (17, Value.pointer (some ⟨g, 0, none⟩)), (18, Value.pointer (some ⟨g, 0, none⟩)), (19, Value.pointer (some ⟨g, 0, none⟩)), (20, Value.int .i64 now), (21, Value.int .i64 n), (22, Value.pointer (some ⟨g, 0, none⟩)), (23, Value.pointer (some ⟨g, 0, none⟩)), (24, Value.pointer (some ⟨g, 0, none⟩)), (25, Value.pointer (some ⟨g, 0, none⟩)), (26, Value.int .i64 now), (27, Value.int .i64 (2305843009213693952 - now)), (28, Value.int .i64 mn), (29, Value.int .i64 (now + mn)), (30, Value.pointer (some ⟨g, 0, none⟩)), (31, Value.pointer (some ⟨g, 0, none⟩)), (32, Value.pointer (some ⟨g, 0, none⟩))] → W.heap[g]? = some (.cells #[Value.int .i64 (now + mn), Value.map none] 29 (0, 0)) → Kp w W (fun k => k = g) → wpAnyH Try.prog .any (regOf Try.f13 5) QQ (fun W => True) 0 #[true, true, true, true, true, true, true, true, true, true, true, true, true, true, true, true, true, true] a W := by
    intro w3 a hE B_g K_0
    refine d_end (by kernel_rfl) (hend _ _ ?_)
    refine c_reg R13_6_l ?_
    refine q0 p13_6_0 hE (st_move rfl) ?_
    clear hE a; intro a hE
    refine p_cons (s_call (xs := [Operand.tmp 33]) (args := [Value.pointer (some ⟨g, 0, none⟩)]) p13_6_1 hE wn_none rfl rfl Try.func34 cl34 (fire_nil g (now + mn) _ B_g) ?_)
    rintro e w4 ⟨rfl, hk⟩
    replace B_g := kp_blk B_g hk (fun h => h)
    replace K_0 := K_0.then_ hk (fun _ h => h.elim)
    refine ⟨_, rfl, ?_⟩
    clear hE a; intro a hE
    refine q0 p13_6_2 hE (st_assign rfl) ?_
    clear hE a; intro a hE
    refine q0 p13_6_3 hE (st_assign rfl) ?_
    clear hE a; intro a hE
    refine p_nil ?_
    refine x_norm ?_
    refine wp_ret ?_
    refine ret_list (rs := [.tmp 4, .tmp 5]) (vs := [Value.slice none 0 0, Value.int .i64 0]) rfl hE (.tmp rfl (.tmp rfl .nil)) rfl ?_
    exact ⟨rfl, B_g, K_0⟩
  have dr5_3 : ∀ (W : World) (a : Act), En 35 a [(0, Value.pointer (some ⟨g, 0, none⟩)), (1, Value.int .i64 n), (4, Value.slice none 0 0), (5, Value.int .i64 0), (6, Value.bool false), (9, Value.bool false), (16, Value.pointer (some ⟨g, 0, none⟩)), (17, Value.pointer (some ⟨g, 0, none⟩)), (18, Value.pointer (some ⟨g, 0, none⟩)), (19, Value.pointer (some ⟨g, 0, none⟩)), (20, Value.int .i64 now), (21, Value.int .i64 n), (22, Value.pointer (some ⟨g, 0, none⟩)), (23, Value.pointer (some ⟨g, 0, none⟩)), (24, Value.pointer (some ⟨g, 0, none⟩)), (25, Value.pointer (some ⟨g, 0, none⟩)), (26, Value.int .i64 now), (27, Value.int .i64 (2305843009213693952 - now)), (28, Value.int .i64 mn), (29, Value.int .i64 (now + mn)), (30, Value.pointer (some ⟨g, 0, none⟩)), (31, Value.pointer (some ⟨g, 0, none⟩)), (32, Value.pointer (some ⟨g, 0, none⟩))] → W.heap[g]? = some (.cells #[Value.int .i64 now, Value.map none] 29 (0, 0)) → Kp w W (fun k => k = g) → wpAnyH Try.prog .any (regOf Try.f13 5) QQ (fun W => True) 1 #[true, true, true, true, true, true, true, true, true, true, true, true, true, true, true, true, true, false] a W := by
    intro w5 a hE B_g K_0
    refine d_all (rs := [17]) (by kernel_rfl) rfl ?_
    refine all_cons (d_lit (listed' := #[true, true, true, true, true, true, true, true, true, true, true, true, true, true, true, true, true, true]) rfl ?_) ?_
    ·
      refine (s_store (off := 0) (k := 1) (cs' := #[Value.int .i64 (now + mn), Value.map none]) p13_5_17 hE wn_none tS3 rfl rfl rfl rfl B_g (Nat.le_of_ble_eq_true rfl) rfl ?_)
      intro w6 B_g' hk
      replace K_0 := K_0.then_ hk (fun k h => by rw [show k = g from h]; exact Or.inl rfl)
      replace B_g := B_g'
      clear hk
      refine ⟨trivial, ?_⟩
      exact dr5_4 _ a (En.sub hE ⟨rfl, rfl, rfl, rfl, rfl, rfl, rfl, rfl, rfl, rfl, rfl, rfl, rfl, rfl, rfl, rfl, rfl, rfl, rfl, rfl, rfl, rfl, rfl, trivial⟩) B_g K_0
    exact all_nil
  have dr5_2 : ∀ (W : World) (a : Act), En 35 a [(0, Value.pointer (some ⟨g, 0, none⟩)), (1, Value.int .i64 n), (4, Value.slice none 0 0), (5, Value.int .i64 0), (6, Value.bool false), (9, Value.bool false), (16, Value.pointer (some ⟨g, 0, none⟩)), (17, Value.pointer (some ⟨g, 0, none⟩)), (18, Value.pointer (some ⟨g, 0, none⟩)), (19, Value.pointer (some ⟨g, 0, none⟩)), (21, Value.int .i64 n), (22, Value.pointer (some ⟨g, 0, none⟩)), (23, Value.pointer (some ⟨g, 0, none⟩)), (24, Value.pointer (some ⟨g, 0, none⟩)), (25, Value.pointer (some ⟨g, 0, none⟩)), (26, Value.int .i64 now), (27, Value.int .i64 (2305843009213693952 - now)), (28, Value.int .i64 mn)] → W.heap[g]? = some (.cells #[Value.int .i64 now, Value.map none] 29 (0, 0)) → Kp w W (fun k => k = g) → wpAnyH Try.prog .any (regOf Try.f13 5) QQ (fun W => True) 6 #[true, true, true, true, false, true, true, true, true, true, true, true, true, false, false, false, false, false] a W := by
    intro w7 a hE B_g K_0
    refine d_all (rs := [4]) (by kernel_rfl) rfl ?_
    refine all_cons (d_lit (listed' := #[true, true, true, true, true, true, true, true, true, true, true, true, true, false, false, false, false, false]) rfl ?_) ?_
    ·
      refine (s_still p13_5_4 hE wn_none rfl (st_load1 tA3 rfl ((blk_cell B_g 0).trans rfl)) ?_)
      clear hE a; intro a hE
      refine ⟨trivial, ?_⟩
      refine d_take (v := Value.int .i64 (now + mn)) p13_5_13 ns13_5 (by kernel_rfl) (by kernel_rfl) (fun c a w h => hQ c a _ _ w h) hE wn_none rfl trivial (fun W hS => (st_add (z := now + mn) rfl rfl (wr_i64 _ (by omega) (by omega)))) (listed' := #[true, true, true, true, true, true, true, true, true, true, true, true, true, true, false, false, false, false]) rfl ?_
      clear hE a; intro a hE
      refine d_take (v := Value.pointer (some ⟨g, 0, none⟩)) p13_5_14 ns13_5 (by kernel_rfl) (by kernel_rfl) (fun c a w h => hQ c a _ _ w h) hE wn_none rfl trivial (fun W hS => (st_nil rfl)) (listed' := #[true, true, true, true, true, true, true, true, true, true, true, true, true, true, true, false, false, false]) rfl ?_
      clear hE a; intro a hE
      refine d_take (v := Value.pointer (some ⟨g, 0, none⟩)) p13_5_15 ns13_5 (by kernel_rfl) (by kernel_rfl) (fun c a w h => hQ c a _ _ w h) hE wn_none rfl trivial (fun W hS => (st_fieldAddr Try.underlying29 rfl tS26 rfl rfl)) (listed' := #[true, true, true, true, true, true, true, true, true, true, true, true, true, true, true, true, false, false]) rfl ?_
      clear hE a; intro a hE
      refine d_take (v := Value.pointer (some ⟨g, 0, none⟩)) p13_5_16 ns13_5 (by kernel_rfl) (by kernel_rfl) (fun c a w h => hQ c a _ _ w h) hE wn_none rfl trivial (fun W hS => (st_fieldAddr Try.underlying26 rfl tS3 rfl rfl)) (listed' := #[true, true, true, true, true, true, true, true, true, true, true, true, true, true, true, true, true, false]) rfl ?_
      clear hE a; intro a hE
      exact dr5_3 _ a (En.sub hE ⟨rfl, rfl, rfl, rfl, rfl, rfl, rfl, rfl, rfl, rfl, rfl, rfl, rfl, rfl, rfl, rfl, rfl, rfl, rfl, rfl, rfl, rfl, rfl, trivial⟩) B_g K_0
    exact all_nil
  have dr5_1 : ∀ (W : World) (a : Act), En 35 a [(0, Value.pointer (some ⟨g, 0, none⟩)), (1, Value.int .i64 n), (4, Value.slice none 0 0), (5, Value.int .i64 0), (6, Value.bool false), (9, Value.bool false), (16, Value.pointer (some ⟨g, 0, none⟩)), (17, Value.pointer (some ⟨g, 0, none⟩)), (18, Value.pointer (some ⟨g, 0, none⟩)), (19, Value.pointer (some ⟨g, 0, none⟩)), (20, Value.int .i64 now), (21, Value.int .i64 n), (22, Value.pointer (some ⟨g, 0, none⟩)), (23, Value.pointer (some ⟨g, 0, none⟩)), (24, Value.pointer (some ⟨g, 0, none⟩)), (25, Value.pointer (some ⟨g, 0, none⟩))] → W.heap[g]? = some (.cells #[Value.int .i64 now, Value.map none] 29 (0, 0)) → Kp w W (fun k => k = g) → wpAnyH Try.prog .any (regOf Try.f13 5) QQ (fun W => True) 8 #[true, true, true, true, true, true, true, true, true, true, false, false, false, false, false, false, false, false] a W := by
    intro w8 a hE B_g K_0
    refine d_all (rs := [10]) (by kernel_rfl) rfl ?_
    refine all_cons (d_lit (listed' := #[true, true, true, true, true, true, true, true, true, true, true, false, false, false, false, false, false, false]) rfl ?_) ?_
    ·
      refine (s_still p13_5_10 hE wn_none rfl (st_load1 tA3 rfl ((blk_cell B_g 0).trans rfl)) ?_)
      clear hE a; intro a hE
      refine ⟨trivial, ?_⟩
      refine d_take (v := Value.int .i64 (2305843009213693952 - now)) p13_5_11 ns13_5 (by kernel_rfl) (by kernel_rfl) (fun c a w h => hQ c a _ _ w h) hE wn_none rfl trivial (fun W hS => (st_sub (z := 2305843009213693952 - now) rfl rfl (wr_i64 _ (by omega) (by omega)))) (listed' := #[true, true, true, true, true, true, true, true, true, true, true, true, false, false, false, false, false, false]) rfl ?_
      clear hE a; intro a hE
      refine d_take (v := Value.int .i64 mn) p13_5_12 ns13_5 (by kernel_rfl) (by kernel_rfl) (fun c a w h => hQ c a _ _ w h) hE wn_none rfl trivial (fun W hS => (st_min (z := mn) rfl rfl hmn)) (listed' := #[true, true, true, true, true, true, true, true, true, true, true, true, true, false, false, false, false, false]) rfl ?_
      clear hE a; intro a hE
      refine d_take (v := Value.int .i64 (now + mn)) p13_5_13 ns13_5 (by kernel_rfl) (by kernel_rfl) (fun c a w h => hQ c a _ _ w h) hE wn_none rfl trivial (fun W hS => (st_add (z := now + mn) rfl rfl (wr_i64 _ (by omega) (by omega)))) (listed' := #[true, true, true, true, true, true, true, true, true, true, true, true, true, true, false, false, false, false]) rfl ?_
      clear hE a; intro a hE
      refine d_take (v := Value.pointer (some ⟨g, 0, none⟩)) p13_5_14 ns13_5 (by kernel_rfl) (by kernel_rfl) (fun c a w h => hQ c a _ _ w h) hE wn_none rfl trivial (fun W hS => (st_nil rfl)) (listed' := #[true, true, true, true, true, true, true, true, true, true, true, true, true, true, true, false, false, false]) rfl ?_
      clear hE a; intro a hE
      refine d_take (v := Value.pointer (some ⟨g, 0, none⟩)) p13_5_15 ns13_5 (by kernel_rfl) (by kernel_rfl) (fun c a w h => hQ c a _ _ w h) hE wn_none rfl trivial (fun W hS => (st_fieldAddr Try.underlying29 rfl tS26 rfl rfl)) (listed' := #[true, true, true, true, true, true, true, true, true, true, true, true, true, true, true, true, false, false]) rfl ?_
      clear hE a; intro a hE
      refine d_take (v := Value.pointer (some ⟨g, 0, none⟩)) p13_5_16 ns13_5 (by kernel_rfl) (by kernel_rfl) (fun c a w h => hQ c a _ _ w h) hE wn_none rfl trivial (fun W hS => (st_fieldAddr Try.underlying26 rfl tS3 rfl rfl)) (listed' := #[true, true, true, true, true, true, true, true, true, true, true, true, true, true, true, true, true, false]) rfl ?_
      clear hE a; intro a hE
      exact dr5_3 _ a (En.sub hE ⟨rfl, rfl, rfl, rfl, rfl, rfl, rfl, rfl, rfl, rfl, rfl, rfl, rfl, rfl, rfl, rfl, rfl, rfl, rfl, rfl, rfl, rfl, rfl, trivial⟩) B_g K_0
    exact all_nil
  have dr5_0 : ∀ (W : World) (a : Act), En 35 a [(0, Value.pointer (some ⟨g, 0, none⟩)), (1, Value.int .i64 n), (4, Value.slice none 0 0), (5, Value.int .i64 0), (6, Value.bool false), (9, Value.bool false), (16, Value.pointer (some ⟨g, 0, none⟩)), (17, Value.pointer (some ⟨g, 0, none⟩)), (18, Value.pointer (some ⟨g, 0, none⟩)), (19, Value.pointer (some ⟨g, 0, none⟩)), (21, Value.int .i64 n), (22, Value.pointer (some ⟨g, 0, none⟩)), (23, Value.pointer (some ⟨g, 0, none⟩)), (24, Value.pointer (some ⟨g, 0, none⟩)), (25, Value.pointer (some ⟨g, 0, none⟩))] → W.heap[g]? = some (.cells #[Value.int .i64 now, Value.map none] 29 (0, 0)) → Kp w W (fun k => k = g) → wpAnyH Try.prog .any (regOf Try.f13 5) QQ (fun W => True) 9 #[true, true, true, true, false, true, true, true, true, true, false, false, false, false, false, false, false, false] a W := by
    intro w9 a hE B_g K_0
    refine d_all (rs := [4, 10]) (by kernel_rfl) rfl ?_
    refine all_cons (d_lit (listed' := #[true, true, true, true, true, true, true, true, true, true, false, false, false, false, false, false, false, false]) rfl ?_) ?_
    ·
      refine (s_still p13_5_4 hE wn_none rfl (st_load1 tA3 rfl ((blk_cell B_g 0).trans rfl)) ?_)
      clear hE a; intro a hE
      refine ⟨trivial, ?_⟩
      exact dr5_1 _ a (En.sub hE ⟨rfl, rfl, rfl, rfl, rfl, rfl, rfl, rfl, rfl, rfl, rfl, rfl, rfl, rfl, rfl, rfl, trivial⟩) B_g K_0
    refine all_cons (d_lit (listed' := #[true, true, true, true, false, true, true, true, true, true, true, false, false, false, false, false, false, false]) rfl ?_) ?_
    ·
      refine (s_still p13_5_10 hE wn_none rfl (st_load1 tA3 rfl ((blk_cell B_g 0).trans rfl)) ?_)
      clear hE a; intro a hE
      refine ⟨trivial, ?_⟩
      refine d_take (v := Value.int .i64 (2305843009213693952 - now)) p13_5_11 ns13_5 (by kernel_rfl) (by kernel_rfl) (fun c a w h => hQ c a _ _ w h) hE wn_none rfl trivial (fun W hS => (st_sub (z := 2305843009213693952 - now) rfl rfl (wr_i64 _ (by omega) (by omega)))) (listed' := #[true, true, true, true, false, true, true, true, true, true, true, true, false, false, false, false, false, false]) rfl ?_
      clear hE a; intro a hE
      refine d_take (v := Value.int .i64 mn) p13_5_12 ns13_5 (by kernel_rfl) (by kernel_rfl) (fun c a w h => hQ c a _ _ w h) hE wn_none rfl trivial (fun W hS => (st_min (z := mn) rfl rfl hmn)) (listed' := #[true, true, true, true, false, true, true, true, true, true, true, true, true, false, false, false, false, false]) rfl ?_
      clear hE a; intro a hE
      exact dr5_2 _ a (En.sub hE ⟨rfl, rfl, rfl, rfl, rfl, rfl, rfl, rfl, rfl, rfl, rfl, rfl, rfl, rfl, rfl, rfl, rfl, rfl, trivial⟩) B_g K_0
    exact all_nil
  intro w1 hh hk
  replace B_g := kp_blk B_g hk (fun h => h)
  replace K_0 := K_0.then_ hk (fun _ h => h.elim)
  clear hh hk
  refine d_take (v := Value.pointer (some ⟨g, 0, none⟩)) p13_5_0 ns13_5 (by kernel_rfl) (by kernel_rfl) (fun c a w h => hQ c a _ _ w h) hE wn_none rfl trivial (fun W hS => (st_move rfl)) (listed' := #[true, false, false, false, false, false, false, false, false, false, false, false, false, false, false, false, false, false]) rfl ?_
  clear hE a; intro a hE
  refine d_take (v := Value.pointer (some ⟨g, 0, none⟩)) p13_5_1 ns13_5 (by kernel_rfl) (by kernel_rfl) (fun c a w h => hQ c a _ _ w h) hE wn_none rfl trivial (fun W hS => (st_nil rfl)) (listed' := #[true, true, false, false, false, false, false, false, false, false, false, false, false, false, false, false, false, false]) rfl ?_
  clear hE a; intro a hE
  refine d_take (v := Value.pointer (some ⟨g, 0, none⟩)) p13_5_2 ns13_5 (by kernel_rfl) (by kernel_rfl) (fun c a w h => hQ c a _ _ w h) hE wn_none rfl trivial (fun W hS => (st_fieldAddr Try.underlying29 rfl tS26 rfl rfl)) (listed' := #[true, true, true, false, false, false, false, false, false, false, false, false, false, false, false, false, false, false]) rfl ?_
  clear hE a; intro a hE
  refine d_take (v := Value.pointer (some ⟨g, 0, none⟩)) p13_5_3 ns13_5 (by kernel_rfl) (by kernel_rfl) (fun c a w h => hQ c a _ _ w h) hE wn_none rfl trivial (fun W hS => (st_fieldAddr Try.underlying26 rfl tS3 rfl rfl)) (listed' := #[true, true, true, true, false, false, false, false, false, false, false, false, false, false, false, false, false, false]) rfl ?_
  clear hE a; intro a hE
  refine d_take (v := Value.int .i64 n) p13_5_5 ns13_5 (by kernel_rfl) (by kernel_rfl) (fun c a w h => hQ c a _ _ w h) hE wn_none rfl trivial (fun W hS => (st_move rfl)) (listed' := #[true, true, true, true, false, true, false, false, false, false, false, false, false, false, false, false, false, false]) rfl ?_
  clear hE a; intro a hE
  refine d_take (v := Value.pointer (some ⟨g, 0, none⟩)) p13_5_6 ns13_5 (by kernel_rfl) (by kernel_rfl) (fun c a w h => hQ c a _ _ w h) hE wn_none rfl trivial (fun W hS => (st_move rfl)) (listed' := #[true, true, true, true, false, true, true, false, false, false, false, false, false, false, false, false, false, false]) rfl ?_
  clear hE a; intro a hE
  refine d_take (v := Value.pointer (some ⟨g, 0, none⟩)) p13_5_7 ns13_5 (by kernel_rfl) (by kernel_rfl) (fun c a w h => hQ c a _ _ w h) hE wn_none rfl trivial (fun W hS => (st_nil rfl)) (listed' := #[true, true, true, true, false, true, true, true, false, false, false, false, false, false, false, false, false, false]) rfl ?_
  clear hE a; intro a hE
  refine d_take (v := Value.pointer (some ⟨g, 0, none⟩)) p13_5_8 ns13_5 (by kernel_rfl) (by kernel_rfl) (fun c a w h => hQ c a _ _ w h) hE wn_none rfl trivial (fun W hS => (st_fieldAddr Try.underlying29 rfl tS26 rfl rfl)) (listed' := #[true, true, true, true, false, true, true, true, true, false, false, false, false, false, false, false, false, false]) rfl ?_
  clear hE a; intro a hE
  refine d_take (v := Value.pointer (some ⟨g, 0, none⟩)) p13_5_9 ns13_5 (by kernel_rfl) (by kernel_rfl) (fun c a w h => hQ c a _ _ w h) hE wn_none rfl trivial (fun W hS => (st_fieldAddr Try.underlying26 rfl tS3 rfl rfl)) (listed' := #[true, true, true, true, false, true, true, true, true, true, false, false, false, false, false, false, false, false]) rfl ?_
  clear hE a; intro a hE
  exact dr5_0 _ a (En.sub hE ⟨rfl, rfl, rfl, rfl, rfl, rfl, rfl, rfl, rfl, rfl, rfl, rfl, rfl, rfl, rfl, trivial⟩) B_g K_0
theorem R14_0_l : List.range (regOf Try.f14 0).size = [0, 1] := by kernel_rfl
theorem R14_1_l : List.range (regOf Try.f14 1).size = [0, 1] := by kernel_rfl
theorem R14_2_l : List.range (regOf Try.f14 2).size = [0, 1] := by kernel_rfl
theorem R14_3_l : List.range (regOf Try.f14 3).size = [0, 1, 2, 3, 4, 5, 6] := by kernel_rfl
theorem R14_4_l : List.range (regOf Try.f14 4).size = [0, 1] := by kernel_rfl
theorem R14_5_l : List.range (regOf Try.f14 5).size = [0, 1] := by kernel_rfl
theorem R14_6_l : List.range (regOf Try.f14 6).size = [0, 1, 2, 3, 4, 5, 6, 7] := by kernel_rfl
theorem body14 : Try.f14.body = some (.seq (.region 0 (regOf Try.f14 0) false) (.seq (.seq (.region 1 (regOf Try.f14 1) false) (.cond (Operand.tmp 7) (.seq (.region 2 (regOf Try.f14 2) false) (.ret)) (.skip))) (.seq (.region 3 (regOf Try.f14 3) false) (.seq (.seq (.region 4 (regOf Try.f14 4) false) (.cond (Operand.tmp 14) (.seq (.region 5 (regOf Try.f14 5) false) (.ret)) (.skip))) (.seq (.region 6 (regOf Try.f14 6) false) (.ret)))))) := by kernel_rfl
theorem p14_0_0 : pj (regOf Try.f14 0) 0 = some (some 2, .assign (.const (.int .i64 0)), 3, none) := by kernel_rfl
theorem p14_0_1 : pj (regOf Try.f14 0) 1 = some (some 3, .assign (.const (.int .i64 0)), 30, none) := by kernel_rfl
theorem p14_1_0 : pj (regOf Try.f14 1) 0 = some (some 6, .move (.tmp 0), 24, none) := by kernel_rfl
theorem p14_1_1 : pj (regOf Try.f14 1) 1 = some (some 7, .binOp .eql 24 (.tmp 6) (.const (.pointer none)) 24, 4, none) := by kernel_rfl
theorem p14_3_0 : pj (regOf Try.f14 3) 0 = some (some 9, .move (.tmp 0), 24, none) := by kernel_rfl
theorem p14_3_1 : pj (regOf Try.f14 3) 1 = some (some 10, .call { callee := .value (.func 36), args := #[.tmp 9], argTypes := #[24] }, 74, none) := by kernel_rfl
theorem p14_3_2 : pj (regOf Try.f14 3) 2 = some (some 8, .move (.tmp 10), 74, none) := by kernel_rfl
theorem p14_3_3 : pj (regOf Try.f14 3) 3 = some (some 11, .extract (.tmp 8) 0, 3, none) := by kernel_rfl
theorem p14_3_4 : pj (regOf Try.f14 3) 4 = some (some 12, .extract (.tmp 8) 1, 4, none) := by kernel_rfl
theorem p14_3_5 : pj (regOf Try.f14 3) 5 = some (some 4, .assign (.tmp 11), 3, none) := by kernel_rfl
theorem p14_3_6 : pj (regOf Try.f14 3) 6 = some (some 5, .assign (.tmp 12), 4, none) := by kernel_rfl
theorem p14_4_0 : pj (regOf Try.f14 4) 0 = some (some 13, .move (.tmp 5), 4, none) := by kernel_rfl
theorem p14_4_1 : pj (regOf Try.f14 4) 1 = some (some 14, .unOp .not 4 (.tmp 13), 4, none) := by kernel_rfl
theorem p14_5_0 : pj (regOf Try.f14 5) 0 = some (some 2, .assign (.const (.int .i64 0)), 3, none) := by kernel_rfl
theorem p14_5_1 : pj (regOf Try.f14 5) 1 = some (some 3, .assign (.const (.int .i64 8)), 30, none) := by kernel_rfl
set_option maxHeartbeats 4000000 in
theorem next_nil (g : Nat) (now : Int) (w : World) (hg : w.heap[g]? = some (.cells #[.int .i64 now, .map none] 29 (0, 0))) : Calls Try.prog 14 #[.pointer (some ⟨g, 0, none⟩)] w fun e w' => e = .returned (.tuple #[.int .i64 0, .int .i64 8]) ∧ Kp w w' (fun _ => False) := by
  have K_0 := Kp.refl w (fun _ => False)
  have B_g := hg
  refine enter (args := [Value.pointer (some ⟨g, 0, none⟩)]) (n := 21) Try.func14 body14 rfl rfl rfl ?_
  intro a hE
  refine c_reg R14_0_l ?_
  refine q0 p14_0_0 hE (st_assign rfl) ?_
  clear hE a; intro a hE
  refine q0 p14_0_1 hE (st_assign rfl) ?_
  clear hE a; intro a hE
  refine p_nil ?_
  refine x_norm ?_
  refine wp_seq ?_
  refine c_reg R14_1_l ?_
  refine q0 p14_1_0 hE (st_move rfl) ?_
  clear hE a; intro a hE
  refine q0 p14_1_1 hE (st_eqlP (b := false) tP24 rfl rfl rfl) ?_
  clear hE a; intro a hE
  refine p_nil ?_
  refine x_norm ?_
  refine c_cond (t := false) hE rfl ?_
  refine wp_skip ?_
  refine x_norm ?_
  refine c_reg R14_3_l ?_
  refine q0 p14_3_0 hE (st_move rfl) ?_
  clear hE a; intro a hE
  refine p_cons (s_call (xs := [Operand.tmp 9]) (args := [Value.pointer (some ⟨g, 0, none⟩)]) p14_3_1 hE wn_none rfl rfl Try.func36 cl36 (first_nil g now _ B_g) ?_)
  rintro e w1 ⟨rfl, hk⟩
  replace B_g := kp_blk B_g hk (fun h => h)
  replace K_0 := K_0.then_ hk (fun _ h => h.elim)
  refine ⟨_, rfl, ?_⟩
  clear hE a; intro a hE
  refine q0 p14_3_2 hE (st_move rfl) ?_
  clear hE a; intro a hE
  refine q0 p14_3_3 hE (st_extract rfl rfl) ?_
  clear hE a; intro a hE
  refine q0 p14_3_4 hE (st_extract rfl rfl) ?_
  clear hE a; intro a hE
  refine q0 p14_3_5 hE (st_assign rfl) ?_
  clear hE a; intro a hE
  refine q0 p14_3_6 hE (st_assign rfl) ?_
  clear hE a; intro a hE
  refine p_nil ?_
  refine x_norm ?_
  refine wp_seq ?_
  refine c_reg R14_4_l ?_
  refine q0 p14_4_0 hE (st_move rfl) ?_
  clear hE a; intro a hE
  refine q0 p14_4_1 hE (st_not rfl rfl) ?_
  clear hE a; intro a hE
  refine p_nil ?_
  refine x_norm ?_
  refine c_cond (t := true) hE rfl ?_
  refine c_reg R14_5_l ?_
  refine q0 p14_5_0 hE (st_assign rfl) ?_
  clear hE a; intro a hE
  refine q0 p14_5_1 hE (st_assign rfl) ?_
  clear hE a; intro a hE
  refine p_nil ?_
  refine x_norm ?_
  refine wp_ret ?_
  refine x_ret ?_
  refine ret_list (rs := [.tmp 2, .tmp 3]) (vs := [Value.int .i64 0, Value.int .i64 8]) rfl hE (.tmp rfl (.tmp rfl .nil)) rfl ?_
  exact ⟨rfl, K_0⟩
theorem R16_0_l : List.range (regOf Try.f16 0).size = [0] := by kernel_rfl
theorem R16_1_l : List.range (regOf Try.f16 1).size = [0, 1] := by kernel_rfl
theorem R16_2_l : List.range (regOf Try.f16 2).size = [0] := by kernel_rfl
theorem R16_3_l : List.range (regOf Try.f16 3).size = [0, 1, 2, 3, 4, 5] := by kernel_rfl
theorem body16 : Try.f16.body = some (.seq (.region 0 (regOf Try.f16 0) false) (.seq (.seq (.region 1 (regOf Try.f16 1) false) (.cond (Operand.tmp 4) (.seq (.region 2 (regOf Try.f16 2) false) (.ret)) (.skip))) (.seq (.region 3 (regOf Try.f16 3) false) (.ret)))) := by kernel_rfl
theorem p16_0_0 : pj (regOf Try.f16 0) 0 = some (some 2, .assign (.const (.int .i64 0)), 3, none) := by kernel_rfl
theorem p16_1_0 : pj (regOf Try.f16 1) 0 = some (some 3, .move (.tmp 0), 24, none) := by kernel_rfl
theorem p16_1_1 : pj (regOf Try.f16 1) 1 = some (some 4, .binOp .eql 24 (.tmp 3) (.const (.pointer none)) 24, 4, none) := by kernel_rfl
theorem p16_3_0 : pj (regOf Try.f16 3) 0 = some (some 5, .move (.tmp 0), 24, none) := by kernel_rfl
theorem p16_3_1 : pj (regOf Try.f16 3) 1 = some (some 6, .nilCheck (.tmp 5), 0, none) := by kernel_rfl
theorem p16_3_2 : pj (regOf Try.f16 3) 2 = some (some 7, .fieldAddr 29 (.tmp 6) 1, 0, none) := by kernel_rfl
theorem p16_3_3 : pj (regOf Try.f16 3) 3 = some (some 8, .load 27 (.tmp 7), 27, none) := by kernel_rfl
theorem p16_3_4 : pj (regOf Try.f16 3) 4 = some (some 9, .call { callee := .builtin .len, args := #[.tmp 8], argTypes := #[27] }, 3, none) := by kernel_rfl
theorem p16_3_5 : pj (regOf Try.f16 3) 5 = some (some 2, .assign (.tmp 9), 3, none) := by kernel_rfl
set_option maxHeartbeats 4000000 in
theorem len_nil (g : Nat) (now : Int) (w : World) (hg : w.heap[g]? = some (.cells #[.int .i64 now, .map none] 29 (0, 0))) : Calls Try.prog 16 #[.pointer (some ⟨g, 0, none⟩)] w fun e w' => e = .returned (.int .i64 0) ∧ Kp w w' (fun _ => False) := by
  have K_0 := Kp.refl w (fun _ => False)
  have B_g := hg
  refine enter (args := [Value.pointer (some ⟨g, 0, none⟩)]) (n := 10) Try.func16 body16 rfl rfl rfl ?_
  intro a hE
  refine c_reg R16_0_l ?_
  refine q0 p16_0_0 hE (st_assign rfl) ?_
  clear hE a; intro a hE
  refine p_nil ?_
  refine x_norm ?_
  refine wp_seq ?_
  refine c_reg R16_1_l ?_
  refine q0 p16_1_0 hE (st_move rfl) ?_
  clear hE a; intro a hE
  refine q0 p16_1_1 hE (st_eqlP (b := false) tP24 rfl rfl rfl) ?_
  clear hE a; intro a hE
  refine p_nil ?_
  refine x_norm ?_
  refine c_cond (t := false) hE rfl ?_
  refine wp_skip ?_
  refine x_norm ?_
  refine c_reg R16_3_l ?_
  refine q0 p16_3_0 hE (st_move rfl) ?_
  clear hE a; intro a hE
  refine q0 p16_3_1 hE (st_nil rfl) ?_
  clear hE a; intro a hE
  refine q0 p16_3_2 hE (st_fieldAddr Try.underlying29 rfl tS27 rfl rfl) ?_
  clear hE a; intro a hE
  refine q0 p16_3_3 hE (st_load1 tA27 rfl ((blk_cell B_g 1).trans rfl)) ?_
  clear hE a; intro a hE
  refine q0 p16_3_4 hE (Mi.st_lenMN Try.underlying27 rfl) ?_
  clear hE a; intro a hE
  refine q0 p16_3_5 hE (st_assign rfl) ?_
  clear hE a; intro a hE
  refine p_nil ?_
  refine x_norm ?_
  refine wp_ret ?_
  refine ret_one (v := Value.int .i64 0) rfl hE (.tmp rfl .nil) ?_
  exact ⟨rfl, K_0⟩
theorem R12_0_l : List.range (regOf Try.f12 0).size = [0] := by kernel_rfl
theorem R12_1_l : List.range (regOf Try.f12 1).size = [0, 1] := by kernel_rfl
theorem R12_2_l : List.range (regOf Try.f12 2).size = [0] := by kernel_rfl
theorem R12_3_l : List.range (regOf Try.f12 3).size = [0, 1, 2, 3, 4, 5, 6, 7, 8, 9, 10, 11] := by kernel_rfl
theorem body12 : Try.f12.body = some (.seq (.region 0 (regOf Try.f12 0) false) (.seq (.seq (.region 1 (regOf Try.f12 1) false) (.cond (Operand.tmp 4) (.seq (.region 2 (regOf Try.f12 2) false) (.ret)) (.skip))) (.seq (.region 3 (regOf Try.f12 3) true) (.ret)))) := by kernel_rfl
theorem p12_0_0 : pj (regOf Try.f12 0) 0 = some (some 2, .assign (.const (.pointer none)), 24, none) := by kernel_rfl
theorem p12_1_0 : pj (regOf Try.f12 1) 0 = some (some 3, .move (.tmp 0), 24, none) := by kernel_rfl
theorem p12_1_1 : pj (regOf Try.f12 1) 1 = some (some 4, .binOp .eql 24 (.tmp 3) (.const (.pointer none)) 24, 4, none) := by kernel_rfl
theorem ns12_3 : Region.noSelect (regOf Try.f12 3) = true := by kernel_rfl
theorem p12_3_0 : pj (regOf Try.f12 3) 0 = some (some 5, .move (.tmp 0), 24, none) := by kernel_rfl
theorem p12_3_1 : pj (regOf Try.f12 3) 1 = some (some 6, .nilCheck (.tmp 5), 0, none) := by kernel_rfl
theorem p12_3_2 : pj (regOf Try.f12 3) 2 = some (some 7, .fieldAddr 29 (.tmp 6) 0, 0, none) := by kernel_rfl
theorem p12_3_3 : pj (regOf Try.f12 3) 3 = some (some 8, .load 26 (.tmp 7), 26, none) := by kernel_rfl
theorem tA26 : (Try.prog.underlying 26).map aggD = some true := by kernel_rfl
theorem p12_3_4 : pj (regOf Try.f12 3) 4 = some (some 9, .move (.tmp 0), 24, none) := by kernel_rfl
theorem p12_3_5 : pj (regOf Try.f12 3) 5 = some (some 10, .nilCheck (.tmp 9), 0, none) := by kernel_rfl
theorem p12_3_6 : pj (regOf Try.f12 3) 6 = some (some 11, .fieldAddr 29 (.tmp 10) 1, 0, none) := by kernel_rfl
theorem p12_3_7 : pj (regOf Try.f12 3) 7 = some (some 12, .load 27 (.tmp 11), 27, none) := by kernel_rfl
theorem p12_3_8 : pj (regOf Try.f12 3) 8 = some (some 13, .call { callee := .value (.func 35), args := #[.tmp 12], argTypes := #[27] }, 27, none) := by kernel_rfl
theorem cl35 : callable Try.f35 = true := by kernel_rfl
theorem p12_3_9 : pj (regOf Try.f12 3) 9 = some (some 14, .build 29 #[(0, .tmp 8), (1, .tmp 13)], 29, none) := by kernel_rfl
theorem p12_3_10 : pj (regOf Try.f12 3) 10 = some (some 15, .box 29 (.tmp 14), 24, none) := by kernel_rfl
theorem p12_3_11 : pj (regOf Try.f12 3) 11 = some (some 2, .assign (.tmp 15), 24, none) := by kernel_rfl
set_option maxHeartbeats 4000000 in
theorem copy_nil (g : Nat) (now : Int) (w : World) (hg : w.heap[g]? = some (.cells #[.int .i64 now, .map none] 29 (0, 0))) : Calls Try.prog 12 #[.pointer (some ⟨g, 0, none⟩)] w fun e w' => ∃ b, e = .returned (.pointer (some ⟨b, 0, none⟩)) ∧ w.heap.size ≤ b ∧ w'.heap[b]? = some (.cells #[.int .i64 now, .map none] 29 (0, 0)) ∧ Kp w w' (fun _ => False) := by
  have K_0 := Kp.refl w (fun _ => False)
  have B_g := hg
  refine enter (args := [Value.pointer (some ⟨g, 0, none⟩)]) (n := 16) Try.func12 body12 rfl rfl rfl ?_
  intro a hE
  refine c_reg R12_0_l ?_
  refine q0 p12_0_0 hE (st_assign rfl) ?_
  clear hE a; intro a hE
  refine p_nil ?_
  refine x_norm ?_
  refine wp_seq ?_
  refine c_reg R12_1_l ?_
  refine q0 p12_1_0 hE (st_move rfl) ?_
  clear hE a; intro a hE
  refine q0 p12_1_1 hE (st_eqlP (b := false) tP24 rfl rfl rfl) ?_
  clear hE a; intro a hE
  refine p_nil ?_
  refine x_norm ?_
  refine c_cond (t := false) hE rfl ?_
  refine wp_skip ?_
  refine x_norm ?_
  refine c_drawS (S := fun W => W.heap[g]? = some (.cells #[Value.int .i64 now, Value.map none] 29 (0, 0)) ∧ True) rfl rfl (listed := #[false, false, false, false, false, false, false, false, false, false, false, false]) rfl ?_
  intro w1 hh hk
  replace B_g := kp_blk B_g hk (fun h => h)
  replace K_0 := K_0.then_ hk (fun _ h => h.elim)
  clear hh hk
  refine d_take (v := Value.pointer (some ⟨g, 0, none⟩)) p12_3_0 ns12_3 (by kernel_rfl) (by kernel_rfl) (fun _ _ _ h => h) hE wn_none rfl ⟨B_g, trivial⟩ (fun W hS => (st_move rfl)) rfl ?_
  clear hE a; intro a hE
  refine d_take (v := Value.pointer (some ⟨g, 0, none⟩)) p12_3_1 ns12_3 (by kernel_rfl) (by kernel_rfl) (fun _ _ _ h => h) hE wn_none rfl ⟨B_g, trivial⟩ (fun W hS => (st_nil rfl)) rfl ?_
  clear hE a; intro a hE
  refine d_take (v := Value.pointer (some ⟨g, 0, none⟩)) p12_3_2 ns12_3 (by kernel_rfl) (by kernel_rfl) (fun _ _ _ h => h) hE wn_none rfl ⟨B_g, trivial⟩ (fun W hS => (st_fieldAddr Try.underlying29 rfl tS26 rfl rfl)) rfl ?_
  clear hE a; intro a hE
  refine d_take (v := Value.agg #[Value.int .i64 now]) p12_3_3 ns12_3 (by kernel_rfl) (by kernel_rfl) (fun _ _ _ h => h) hE wn_none rfl ⟨B_g, trivial⟩ (fun W hS => (st_loadN (off := 0) (k := 1) (vs := [Value.int .i64 now]) tA26 tS26 rfl hS.1 rfl rfl)) rfl ?_
  clear hE a; intro a hE
  refine d_take (v := Value.pointer (some ⟨g, 0, none⟩)) p12_3_4 ns12_3 (by kernel_rfl) (by kernel_rfl) (fun _ _ _ h => h) hE wn_none rfl ⟨B_g, trivial⟩ (fun W hS => (st_move rfl)) rfl ?_
  clear hE a; intro a hE
  refine d_take (v := Value.pointer (some ⟨g, 0, none⟩)) p12_3_5 ns12_3 (by kernel_rfl) (by kernel_rfl) (fun _ _ _ h => h) hE wn_none rfl ⟨B_g, trivial⟩ (fun W hS => (st_nil rfl)) rfl ?_
  clear hE a; intro a hE
  refine d_take (v := Value.pointer (some ⟨g, 1, none⟩)) p12_3_6 ns12_3 (by kernel_rfl) (by kernel_rfl) (fun _ _ _ h => h) hE wn_none rfl ⟨B_g, trivial⟩ (fun W hS => (st_fieldAddr Try.underlying29 rfl tS27 rfl rfl)) rfl ?_
  clear hE a; intro a hE
  refine d_take (v := Value.map none) p12_3_7 ns12_3 (by kernel_rfl) (by kernel_rfl) (fun _ _ _ h => h) hE wn_none rfl ⟨B_g, trivial⟩ (fun W hS => (st_load1 tA27 rfl ((blk_cell hS.1 1).trans rfl))) rfl ?_
  clear hE a; intro a hE
  refine d_one (by kernel_rfl) rfl (s_call (xs := [Operand.tmp 12]) (args := [Value.map none]) p12_3_8 hE wn_none rfl rfl Try.func35 cl35 (clone_nil _) ?_)
  rintro e w2 ⟨rfl, hk⟩
  replace B_g := kp_blk B_g hk (fun h => h)
  replace K_0 := K_0.then_ hk (fun _ h => h.elim)
  refine ⟨_, rfl, ?_⟩
  clear hE a; intro a hE
  refine ⟨⟨B_g, trivial⟩, ?_⟩
  refine d_take (v := Value.agg #[Value.int .i64 now, Value.map none]) p12_3_9 ns12_3 (by kernel_rfl) (by kernel_rfl) (fun _ _ _ h => h) hE wn_none rfl ⟨B_g, trivial⟩ (fun W hS => (st_build (xs := [(0, Operand.tmp 8), (1, Operand.tmp 13)]) (vs := [(0, Value.agg #[Value.int .i64 now]), (1, Value.map none)]) (cs := #[Value.int .i64 now, Value.map none]) rfl (by kernel_rfl))) rfl ?_
  clear hE a; intro a hE
  refine d_one (by kernel_rfl) rfl (s_box p12_3_10 hE wn_none rfl rfl ?_)
  clear hE a; intro g3 w4 z5 B_g3 hk a hE
  replace B_g3 : w4.heap[g3]? = some (.cells #[Value.int .i64 now, Value.map none] 29 (0, 0)) := B_g3
  have n_g_g3 : g ≠ g3 := ne_new B_g z5
  have z_0_g3 := Nat.le_trans K_0.kept.1 z5
  replace B_g := kp_blk B_g hk (fun h => h)
  replace K_0 := K_0.then_ hk (fun _ h => h.elim)
  clear hk
  refine ⟨⟨B_g, trivial⟩, ?_⟩
  refine d_take (v := Value.pointer (some ⟨g3, 0, none⟩)) p12_3_11 ns12_3 (by kernel_rfl) (by kernel_rfl) (fun _ _ _ h => h) hE wn_none rfl ⟨B_g, trivial⟩ (fun W hS => (st_assign rfl)) rfl ?_
  clear hE a; intro a hE
  refine d_end (by kernel_rfl) ?_
  refine x_norm ?_
  refine wp_ret ?_
  refine ret_one (v := Value.pointer (some ⟨g3, 0, none⟩)) rfl hE (.tmp rfl .nil) ?_
  exact ⟨g3, rfl, z_0_g3, B_g3, K_0⟩
end Go.Proofs.Ytlmjbmeigclihaa.Wr
