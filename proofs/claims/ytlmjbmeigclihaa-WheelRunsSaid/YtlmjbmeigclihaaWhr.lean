/- Layer 10: WheelRuns. -/
import Derived.Test.YtlmjbmeigclihaaWho
set_option maxRecDepth 100000
set_option linter.unusedVariables false
set_option linter.unusedSimpArgs false
namespace Go.Proofs.Ytlmjbmeigclihaa.Wr
open Go.RowKit Go.Maps Go.Sort Go.Shelf Go.Proofs.YtlmjbmeigclihaaW.PrintWords Go.Proofs.Ytlmjbmeigclihaa.Ds Go.Proofs.Ytlmjbmeigclihaa.Wp Go.Proofs.Ytlmjbmeigclihaa.Wh Go.Proofs.Ytlmjbmeigclihaa.Wo Go.Proofs.Ytlmjbmeigclihaa.KdOpen
open Go.Proofs.Ytlmjbmeigclihaa.Pk (Kp)
open Go.Proofs.Ytlmjbmeigclihaa.Mi (st_eqlP st_neqP x_normS x_retS x_exitS MapI getI putI delI)
theorem collect_nil {gk : Nat} (w : World) (hg : w.heap[gk]? = some (.cells #[.map none] 27 (0, 0))) :
    Calls Try.prog 47 #[.func (.func 56) #[] #[.pointer (some ⟨gk, 0, none⟩)]] w fun e w' => e = .returned (.slice none 0 0) ∧ Kp w w' (fun _ => False) := by
  have hseq : SeqGives Fence.wide 3 Try.prog 56 #[.pointer (some ⟨gk, 0, none⟩)] encZ (fun ss : List Int => ss = []) 0 w :=
    AnyZI.keys_gives_nil (ρ := Try.keysB_ren) { Try.keysB with } Fence.wide _ trivial rfl gk _ (blk_lt hg) (by rw [cell_of_row w gk 0 _ _ _ hg]; rfl)
  have cS := AnyZI.collect_in Try.collB Fence.wide 5 trivial trivial rfl (by omega) 56 #[.pointer (some ⟨gk, 0, none⟩)] trivial (enters_of Try.func56 (by kernel_rfl) rfl) _ 0 (Nat.zero_le _) (by omega) _ hseq
  refine ((callsIn_wide (n := 5)).1 cS).mono ?_
  rintro e w' ⟨v, ss, rfl, rfl, hrow, hnil, hb⟩
  exact ⟨by rw [hnil.2 rfl], Kp.of_below hb _⟩
theorem clone_nil (w : World) : Calls Try.prog 35 #[.map none] w fun e w' => e = .returned (.map none) ∧ Kp w w' (fun _ => False) := by
  refine (AnyW.maps_Clone_nil Try.cloneB w).mono ?_
  rintro e w' ⟨rfl, rfl⟩
  exact ⟨rfl, Kp.refl _ _⟩
/-- Who fired, tick by tick. -/
def accT (l : LW) : Nat → List (Int × Int)
  | 0 => []
  | u + 1 => accT l u ++ (fireS ((u : Int) + 1) (lft l (u : Int))).1
theorem accT_spec {l : LW} (hn : (l.map (·.1)).Nodup) (h1 : ∀ p ∈ l, 1 ≤ p.2) : ∀ u : Nat, (accT l u).Perm (l.filter (fun p => decide (p.2 ≤ (u : Int)))) ∧ (accT l u).Pairwise lex
  | 0 => ⟨by
      have : l.filter (fun p => decide (p.2 ≤ ((0 : Nat) : Int))) = [] := List.filter_eq_nil_iff.2 (fun p hp => by have := h1 p hp; simp; omega)
      rw [this]; exact List.Perm.refl _, List.Pairwise.nil⟩
  | u + 1 => by
    obtain ⟨g1, g2⟩ := accT_spec hn h1 u
    obtain ⟨f1, f2, _⟩ := fire_spec ((u : Int) + 1) (lft l (u : Int)) (lft_nodup hn _)
    refine ⟨?_, ?_⟩
    · refine (List.Perm.append g1 f1).trans ?_
      have e1 : (lft l (u : Int)).filter (fun p => decide (p.2 ≤ (u : Int) + 1)) = (l.filter (fun p => decide (p.2 ≤ ((u + 1 : Nat) : Int)))).filter (fun p => !decide (p.2 ≤ (u : Int))) := by
        unfold lft
        rw [List.filter_filter, List.filter_filter]
        congr 1
        funext p
        by_cases a : (u : Int) < p.2 <;> by_cases b : p.2 ≤ (u : Int) + 1
        all_goals
          first
          | (rw [decide_eq_true a]; rw [decide_eq_true b]; rw [decide_eq_true (show p.2 ≤ ((u + 1 : Nat) : Int) by omega)]; rw [decide_eq_false (show ¬ p.2 ≤ (u : Int) by omega)]; rfl)
          | (rw [decide_eq_true a]; rw [decide_eq_false b]; rw [decide_eq_false (show ¬ p.2 ≤ ((u + 1 : Nat) : Int) by omega)]; simp)
          | (rw [decide_eq_false a]; rw [decide_eq_true (show p.2 ≤ (u : Int) by omega)]; simp)
      have e2 : l.filter (fun p => decide (p.2 ≤ (u : Int))) = (l.filter (fun p => decide (p.2 ≤ ((u + 1 : Nat) : Int)))).filter (fun p => decide (p.2 ≤ (u : Int))) := by
        rw [List.filter_filter]
        congr 1
        funext p
        by_cases a : p.2 ≤ (u : Int)
        · rw [decide_eq_true a, decide_eq_true (by omega)]; rfl
        · rw [decide_eq_false a]; rfl
      rw [e1, e2]
      exact List.filter_append_perm _ _
    · show (accT l u ++ _).Pairwise lex
      rw [List.pairwise_append]
      refine ⟨g2, f2, fun p hp q hq => ?_⟩
      have a := (List.mem_filter.1 (g1.mem_iff.1 hp)).2
      have b := (List.mem_filter.1 (f1.mem_iff.1 hq)).1
      unfold lft at b
      have c := (List.mem_filter.1 b).2
      have a := of_decide_eq_true a
      have c := of_decide_eq_true c
      exact .inl (by omega)
theorem accT_all {l : LW} (hn : (l.map (·.1)).Nodup) (h1 : ∀ p ∈ l, 1 ≤ p.2) (u : Nat) : (accT l u).map (·.1) = fireO (u : Int) l := by
  unfold fireO
  obtain ⟨g1, g2⟩ := accT_spec hn h1 u
  obtain ⟨f1, f2, _⟩ := fire_spec (u : Int) l hn
  rw [lex_eq (g1.trans f1.symm) g2 f2]
theorem accT_len {l : LW} (hn : (l.map (·.1)).Nodup) (h1 : ∀ p ∈ l, 1 ≤ p.2) (u : Nat) : (accT l u).length ≤ l.length := by
  rw [(accT_spec hn h1 u).1.length_eq]; exact List.length_filter_le _ _
theorem fire_left {l : LW} (hn : (l.map (·.1)).Nodup) (u : Int) : (fireS u l).2 = lft l u := (fire_spec u l hn).2.2
theorem R36_0_l : List.range (regOf Try.f36 0).size = [0, 1, 2] := by kernel_rfl
theorem R36_1_l : List.range (regOf Try.f36 1).size = [0, 1, 2, 3, 4, 5, 6] := by kernel_rfl
theorem R36_2_l : List.range (regOf Try.f36 2).size = [0, 1, 2] := by kernel_rfl
theorem R36_3_l : List.range (regOf Try.f36 3).size = [0, 1] := by kernel_rfl
theorem R36_4_l : List.range (regOf Try.f36 4).size = [0, 1, 2, 3, 4] := by kernel_rfl
theorem body36 : Try.f36.body = some (.seq (.region 0 (regOf Try.f36 0) false) (.seq (.region 1 (regOf Try.f36 1) false) (.seq (.seq (.region 2 (regOf Try.f36 2) false) (.cond (Operand.tmp 13) (.seq (.region 3 (regOf Try.f36 3) false) (.ret)) (.skip))) (.seq (.region 4 (regOf Try.f36 4) false) (.ret))))) := by kernel_rfl
theorem p36_0_0 : pj (regOf Try.f36 0) 0 = some (some 1, .box 24 (.tmp 0), 0, none) := by kernel_rfl
theorem p36_0_1 : pj (regOf Try.f36 0) 1 = some (some 2, .assign (.const (.int .i64 0)), 3, none) := by kernel_rfl
theorem p36_0_2 : pj (regOf Try.f36 0) 2 = some (some 3, .assign (.const (.bool false)), 4, none) := by kernel_rfl
theorem p36_1_0 : pj (regOf Try.f36 1) 0 = some (some 5, .load 24 (.tmp 1), 24, none) := by kernel_rfl
theorem tA24 : (Try.prog.underlying 24).map aggD = some false := by kernel_rfl
theorem p36_1_1 : pj (regOf Try.f36 1) 1 = some (some 6, .nilCheck (.tmp 5), 0, none) := by kernel_rfl
theorem p36_1_2 : pj (regOf Try.f36 1) 2 = some (some 7, .fieldAddr 29 (.tmp 6) 1, 0, none) := by kernel_rfl
theorem tS27 : (Try.prog.info? 27).map (·.size) = some 1 := by kernel_rfl
theorem p36_1_3 : pj (regOf Try.f36 1) 3 = some (some 8, .load 27 (.tmp 7), 27, none) := by kernel_rfl
theorem tA27 : (Try.prog.underlying 27).map aggD = some false := by kernel_rfl
theorem p36_1_4 : pj (regOf Try.f36 1) 4 = some (some 9, .call { callee := .value (.func 48), args := #[.tmp 8], argTypes := #[27] }, 88, none) := by kernel_rfl
theorem cl48 : callable Try.f48 = true := by kernel_rfl
theorem p36_1_5 : pj (regOf Try.f36 1) 5 = some (some 10, .call { callee := .value (.func 47), args := #[.tmp 9], argTypes := #[88] }, 35, none) := by kernel_rfl
theorem cl47 : callable Try.f47 = true := by kernel_rfl
theorem p36_1_6 : pj (regOf Try.f36 1) 6 = some (some 4, .assign (.tmp 10), 35, none) := by kernel_rfl
theorem p36_2_0 : pj (regOf Try.f36 2) 0 = some (some 11, .move (.tmp 4), 35, none) := by kernel_rfl
theorem p36_2_1 : pj (regOf Try.f36 2) 1 = some (some 12, .call { callee := .builtin .len, args := #[.tmp 11], argTypes := #[35] }, 3, none) := by kernel_rfl
theorem p36_2_2 : pj (regOf Try.f36 2) 2 = some (some 13, .binOp .eql 3 (.tmp 12) (.const (.int .i64 0)) 3, 4, none) := by kernel_rfl
theorem p36_3_0 : pj (regOf Try.f36 3) 0 = some (some 2, .assign (.const (.int .i64 0)), 3, none) := by kernel_rfl
theorem p36_3_1 : pj (regOf Try.f36 3) 1 = some (some 3, .assign (.const (.bool false)), 4, none) := by kernel_rfl
set_option maxHeartbeats 4000000 in
theorem first_nil (g : Nat) (now : Int) (w : World) (hg : w.heap[g]? = some (.cells #[.int .i64 now, .map none] 29 (0, 0))) : Calls Try.prog 36 #[.pointer (some ⟨g, 0, none⟩)] w fun e w' => e = .returned (.tuple #[.int .i64 0, .bool false]) ∧ Kp w w' (fun _ => False) := by
  have K_0 := Kp.refl w (fun _ => False)
  have B_g := hg
  refine enter (args := [Value.pointer (some ⟨g, 0, none⟩)]) (n := 17) Try.func36 body36 rfl rfl rfl ?_
  intro a hE
  refine c_reg R36_0_l ?_
  refine p_cons (s_box p36_0_0 hE wn_none rfl rfl ?_)
  clear hE a; intro g1 w2 z3 B_g1 hk a hE
  replace B_g1 : w2.heap[g1]? = some (.cells #[Value.pointer (some ⟨g, 0, none⟩)] 24 (0, 0)) := B_g1
  have n_g_g1 : g ≠ g1 := ne_new B_g z3
  have z_0_g1 := Nat.le_trans K_0.kept.1 z3
  replace B_g := kp_blk B_g hk (fun h => h)
  replace K_0 := K_0.then_ hk (fun _ h => h.elim)
  clear hk
  refine q0 p36_0_1 hE (st_assign rfl) ?_
  clear hE a; intro a hE
  refine q0 p36_0_2 hE (st_assign rfl) ?_
  clear hE a; intro a hE
  refine p_nil ?_
  refine x_norm ?_
  refine c_reg R36_1_l ?_
  refine q0 p36_1_0 hE (st_load1 tA24 rfl ((blk_cell B_g1 0).trans rfl)) ?_
  clear hE a; intro a hE
  refine q0 p36_1_1 hE (st_nil rfl) ?_
  clear hE a; intro a hE
  refine q0 p36_1_2 hE (st_fieldAddr Try.underlying29 rfl tS27 rfl rfl) ?_
  clear hE a; intro a hE
  refine q0 p36_1_3 hE (st_load1 tA27 rfl ((blk_cell B_g 1).trans rfl)) ?_
  clear hE a; intro a hE
  refine p_cons (s_call (xs := [Operand.tmp 8]) (args := [Value.map none]) p36_1_4 hE wn_none rfl rfl Try.func48 cl48 (Mc.keys_any none _) ?_)
  rintro e w6 ⟨gk4, z5, rfl, B_gk4, hk⟩
  have n_g_gk4 : g ≠ gk4 := ne_new B_g z5
  have n_g1_gk4 : g1 ≠ gk4 := ne_new B_g1 z5
  have z_0_gk4 := Nat.le_trans K_0.kept.1 z5
  replace B_g := kp_blk B_g hk (fun h => h)
  replace B_g1 := kp_blk B_g1 hk (fun h => h)
  replace K_0 := K_0.then_ hk (fun _ h => h.elim)
  refine ⟨_, rfl, ?_⟩
  clear hE a; intro a hE
  refine p_cons (s_call (xs := [Operand.tmp 9]) (args := [Value.func (.func 56) #[] #[Value.pointer (some ⟨gk4, 0, none⟩)]]) p36_1_5 hE wn_none rfl rfl Try.func47 cl47 (collect_nil _ B_gk4) ?_)
  rintro e w7 ⟨rfl, hk⟩
  replace B_g := kp_blk B_g hk (fun h => h)
  replace B_g1 := kp_blk B_g1 hk (fun h => h)
  replace B_gk4 := kp_blk B_gk4 hk (fun h => h)
  replace K_0 := K_0.then_ hk (fun _ h => h.elim)
  refine ⟨_, rfl, ?_⟩
  clear hE a; intro a hE
  refine q0 p36_1_6 hE (st_assign rfl) ?_
  clear hE a; intro a hE
  refine p_nil ?_
  refine x_norm ?_
  refine wp_seq ?_
  refine c_reg R36_2_l ?_
  refine q0 p36_2_0 hE (st_move rfl) ?_
  clear hE a; intro a hE
  refine q0 p36_2_1 hE (st_len Try.underlying35 rfl) ?_
  clear hE a; intro a hE
  refine q0 p36_2_2 hE (st_eql (b := true) rfl rfl (by decide)) ?_
  clear hE a; intro a hE
  refine p_nil ?_
  refine x_norm ?_
  refine c_cond (t := true) hE rfl ?_
  refine c_reg R36_3_l ?_
  refine q0 p36_3_0 hE (st_assign rfl) ?_
  clear hE a; intro a hE
  refine q0 p36_3_1 hE (st_assign rfl) ?_
  clear hE a; intro a hE
  refine p_nil ?_
  refine x_norm ?_
  refine wp_ret ?_
  refine x_ret ?_
  refine ret_list (rs := [.tmp 2, .tmp 3]) (vs := [Value.int .i64 0, Value.bool false]) rfl hE (.tmp rfl (.tmp rfl .nil)) rfl ?_
  exact ⟨rfl, K_0⟩
theorem R34_0_l : List.range (regOf Try.f34 0).size = [0] := by kernel_rfl
theorem R34_1_l : List.range (regOf Try.f34 1).size = [0] := by kernel_rfl
theorem R34_2_l : List.range (regOf Try.f34 2).size = [0, 1, 2, 3, 4, 5, 6] := by kernel_rfl
theorem R34_3_l : List.range (regOf Try.f34 3).size = [0, 1, 2, 3, 4, 5, 6, 7, 8, 9, 10, 11, 12, 13, 14, 15] := by kernel_rfl
theorem R34_4_l : List.range (regOf Try.f34 4).size = [0, 1] := by kernel_rfl
theorem R34_5_l : List.range (regOf Try.f34 5).size = [0, 1, 2, 3, 4, 5] := by kernel_rfl
theorem R34_6_l : List.range (regOf Try.f34 6).size = [0, 1, 2, 3, 4] := by kernel_rfl
theorem body34 : Try.f34.body = some (.seq (.region 0 (regOf Try.f34 0) false) (.seq (.region 1 (regOf Try.f34 1) false) (.block 0 (.loop (.block 1 (.seq (.region 2 (regOf Try.f34 2) false) (.seq (.seq (.region 3 (regOf Try.f34 3) true) (.cond (Operand.tmp 26) (.seq (.region 4 (regOf Try.f34 4) false) (.ret)) (.skip))) (.seq (.region 5 (regOf Try.f34 5) false) (.region 6 (regOf Try.f34 6) false))))))))) := by kernel_rfl
theorem p34_0_0 : pj (regOf Try.f34 0) 0 = some (some 2, .assign (.const (.slice none 0 0)), 35, none) := by kernel_rfl
theorem p34_1_0 : pj (regOf Try.f34 1) 0 = some (some 3, .assign (.const (.slice none 0 0)), 35, none) := by kernel_rfl
theorem p34_2_0 : pj (regOf Try.f34 2) 0 = some (some 7, .move (.tmp 0), 24, none) := by kernel_rfl
theorem p34_2_1 : pj (regOf Try.f34 2) 1 = some (some 8, .call { callee := .value (.func 36), args := #[.tmp 7], argTypes := #[24] }, 74, none) := by kernel_rfl
theorem cl36 : callable Try.f36 = true := by kernel_rfl
theorem p34_2_2 : pj (regOf Try.f34 2) 2 = some (some 6, .move (.tmp 8), 74, none) := by kernel_rfl
theorem p34_2_3 : pj (regOf Try.f34 2) 3 = some (some 9, .extract (.tmp 6) 0, 3, none) := by kernel_rfl
theorem p34_2_4 : pj (regOf Try.f34 2) 4 = some (some 10, .extract (.tmp 6) 1, 4, none) := by kernel_rfl
theorem p34_2_5 : pj (regOf Try.f34 2) 5 = some (some 4, .assign (.tmp 9), 3, none) := by kernel_rfl
theorem p34_2_6 : pj (regOf Try.f34 2) 6 = some (some 5, .assign (.tmp 10), 4, none) := by kernel_rfl
theorem ns34_3 : Region.noSelect (regOf Try.f34 3) = true := by kernel_rfl
theorem p34_3_0 : pj (regOf Try.f34 3) 0 = some (some 11, .move (.tmp 5), 4, none) := by kernel_rfl
theorem p34_3_1 : pj (regOf Try.f34 3) 1 = some (some 12, .unOp .not 4 (.tmp 11), 4, none) := by kernel_rfl
theorem p34_3_2 : pj (regOf Try.f34 3) 2 = some (some 13, .move (.tmp 12), 4, none) := by kernel_rfl
theorem g34_3_2 : dstOf (regOf Try.f34 3) 2 = some 13 := by kernel_rfl
theorem p34_3_3 : pj (regOf Try.f34 3) 3 = some (some 14, .move (.tmp 0), 24, some (2, false)) := by kernel_rfl
theorem p34_3_4 : pj (regOf Try.f34 3) 4 = some (some 15, .nilCheck (.tmp 14), 0, some (2, false)) := by kernel_rfl
theorem p34_3_5 : pj (regOf Try.f34 3) 5 = some (some 16, .fieldAddr 29 (.tmp 15) 1, 0, some (2, false)) := by kernel_rfl
theorem p34_3_6 : pj (regOf Try.f34 3) 6 = some (some 17, .load 27 (.tmp 16), 27, some (2, false)) := by kernel_rfl
theorem p34_3_7 : pj (regOf Try.f34 3) 7 = some (some 18, .move (.tmp 4), 3, some (2, false)) := by kernel_rfl
theorem p34_3_8 : pj (regOf Try.f34 3) 8 = some (some 19, .lookup 27 (.tmp 17) (.tmp 18) false, 3, some (2, false)) := by kernel_rfl
theorem p34_3_9 : pj (regOf Try.f34 3) 9 = some (some 20, .move (.tmp 0), 24, some (2, false)) := by kernel_rfl
theorem p34_3_10 : pj (regOf Try.f34 3) 10 = some (some 21, .nilCheck (.tmp 20), 0, some (2, false)) := by kernel_rfl
theorem p34_3_11 : pj (regOf Try.f34 3) 11 = some (some 22, .fieldAddr 29 (.tmp 21) 0, 0, some (2, false)) := by kernel_rfl
theorem p34_3_12 : pj (regOf Try.f34 3) 12 = some (some 23, .fieldAddr 26 (.tmp 22) 0, 0, some (2, false)) := by kernel_rfl
theorem p34_3_13 : pj (regOf Try.f34 3) 13 = some (some 24, .load 3 (.tmp 23), 3, some (2, false)) := by kernel_rfl
theorem p34_3_14 : pj (regOf Try.f34 3) 14 = some (some 25, .binOp .gtr 3 (.tmp 19) (.tmp 24) 3, 4, some (2, false)) := by kernel_rfl
theorem p34_3_15 : pj (regOf Try.f34 3) 15 = some (some 26, .pick (.tmp 13) (.const (.bool true)) (.tmp 25), 4, none) := by kernel_rfl
theorem p34_4_0 : pj (regOf Try.f34 4) 0 = some (some 27, .move (.tmp 3), 35, none) := by kernel_rfl
theorem p34_4_1 : pj (regOf Try.f34 4) 1 = some (some 2, .assign (.tmp 27), 35, none) := by kernel_rfl
set_option maxHeartbeats 4000000 in
theorem fire_nil (g : Nat) (now : Int) (w : World) (hg : w.heap[g]? = some (.cells #[.int .i64 now, .map none] 29 (0, 0))) : Calls Try.prog 34 #[.pointer (some ⟨g, 0, none⟩)] w fun e w' => e = .returned (.slice none 0 0) ∧ Kp w w' (fun _ => False) := by
  have K_0 := Kp.refl w (fun _ => False)
  have B_g := hg
  refine enter (args := [Value.pointer (some ⟨g, 0, none⟩)]) (n := 37) Try.func34 body34 rfl rfl rfl ?_
  intro a hE
  refine c_reg R34_0_l ?_
  refine q0 p34_0_0 hE (st_assign rfl) ?_
  clear hE a; intro a hE
  refine p_nil ?_
  refine x_norm ?_
  refine c_reg R34_1_l ?_
  refine q0 p34_1_0 hE (st_assign rfl) ?_
  clear hE a; intro a hE
  refine p_nil ?_
  refine x_norm ?_
  refine wp_block ?_
  refine wp_loop_rounds 1 ?_
  refine (Eq.mpr (rounds_succ (n := 0)) ?_)
  refine wp_block ?_
  refine c_reg R34_2_l ?_
  refine q0 p34_2_0 hE (st_move rfl) ?_
  clear hE a; intro a hE
  refine p_cons (s_call (xs := [Operand.tmp 7]) (args := [Value.pointer (some ⟨g, 0, none⟩)]) p34_2_1 hE wn_none rfl rfl Try.func36 cl36 (first_nil g now _ B_g) ?_)
  rintro e w1 ⟨rfl, hk⟩
  replace B_g := kp_blk B_g hk (fun h => h)
  replace K_0 := K_0.then_ hk (fun _ h => h.elim)
  refine ⟨_, rfl, ?_⟩
  clear hE a; intro a hE
  refine q0 p34_2_2 hE (st_move rfl) ?_
  clear hE a; intro a hE
  refine q0 p34_2_3 hE (st_extract rfl rfl) ?_
  clear hE a; intro a hE
  refine q0 p34_2_4 hE (st_extract rfl rfl) ?_
  clear hE a; intro a hE
  refine q0 p34_2_5 hE (st_assign rfl) ?_
  clear hE a; intro a hE
  refine q0 p34_2_6 hE (st_assign rfl) ?_
  clear hE a; intro a hE
  refine p_nil ?_
  refine x_norm ?_
  refine wp_seq ?_
  refine c_drawS (S := fun W => W.heap[g]? = some (.cells #[Value.int .i64 now, Value.map none] 29 (0, 0)) ∧ True) rfl rfl (listed := #[false, false, false, false, false, false, false, false, false, false, false, false, false, false, false, false]) rfl ?_
  intro w2 hh hk
  replace B_g := kp_blk B_g hk (fun h => h)
  replace K_0 := K_0.then_ hk (fun _ h => h.elim)
  clear hh hk
  refine d_take (v := Value.bool false) p34_3_0 ns34_3 (by kernel_rfl) (by kernel_rfl) (fun _ _ _ h => h) hE wn_none rfl ⟨B_g, trivial⟩ (fun W hS => (st_move rfl)) rfl ?_
  clear hE a; intro a hE
  refine d_take (v := Value.bool true) p34_3_1 ns34_3 (by kernel_rfl) (by kernel_rfl) (fun _ _ _ h => h) hE wn_none rfl ⟨B_g, trivial⟩ (fun W hS => (st_not rfl rfl)) rfl ?_
  clear hE a; intro a hE
  refine d_take (v := Value.bool true) p34_3_2 ns34_3 (by kernel_rfl) (by kernel_rfl) (fun _ _ _ h => h) hE wn_none rfl ⟨B_g, trivial⟩ (fun W hS => (st_move rfl)) rfl ?_
  clear hE a; intro a hE
  refine d_skip p34_3_3 ns34_3 (by kernel_rfl) (by kernel_rfl) (fun _ _ _ h => h) hE (wn_some g34_3_2 rfl rfl) rfl ⟨B_g, trivial⟩ rfl ?_
  clear hE a; intro a hE
  refine d_skip p34_3_4 ns34_3 (by kernel_rfl) (by kernel_rfl) (fun _ _ _ h => h) hE (wn_some g34_3_2 rfl rfl) rfl ⟨B_g, trivial⟩ rfl ?_
  clear hE a; intro a hE
  refine d_skip p34_3_5 ns34_3 (by kernel_rfl) (by kernel_rfl) (fun _ _ _ h => h) hE (wn_some g34_3_2 rfl rfl) rfl ⟨B_g, trivial⟩ rfl ?_
  clear hE a; intro a hE
  refine d_skip p34_3_6 ns34_3 (by kernel_rfl) (by kernel_rfl) (fun _ _ _ h => h) hE (wn_some g34_3_2 rfl rfl) rfl ⟨B_g, trivial⟩ rfl ?_
  clear hE a; intro a hE
  refine d_skip p34_3_7 ns34_3 (by kernel_rfl) (by kernel_rfl) (fun _ _ _ h => h) hE (wn_some g34_3_2 rfl rfl) rfl ⟨B_g, trivial⟩ rfl ?_
  clear hE a; intro a hE
  refine d_skip p34_3_8 ns34_3 (by kernel_rfl) (by kernel_rfl) (fun _ _ _ h => h) hE (wn_some g34_3_2 rfl rfl) rfl ⟨B_g, trivial⟩ rfl ?_
  clear hE a; intro a hE
  refine d_skip p34_3_9 ns34_3 (by kernel_rfl) (by kernel_rfl) (fun _ _ _ h => h) hE (wn_some g34_3_2 rfl rfl) rfl ⟨B_g, trivial⟩ rfl ?_
  clear hE a; intro a hE
  refine d_skip p34_3_10 ns34_3 (by kernel_rfl) (by kernel_rfl) (fun _ _ _ h => h) hE (wn_some g34_3_2 rfl rfl) rfl ⟨B_g, trivial⟩ rfl ?_
  clear hE a; intro a hE
  refine d_skip p34_3_11 ns34_3 (by kernel_rfl) (by kernel_rfl) (fun _ _ _ h => h) hE (wn_some g34_3_2 rfl rfl) rfl ⟨B_g, trivial⟩ rfl ?_
  clear hE a; intro a hE
  refine d_skip p34_3_12 ns34_3 (by kernel_rfl) (by kernel_rfl) (fun _ _ _ h => h) hE (wn_some g34_3_2 rfl rfl) rfl ⟨B_g, trivial⟩ rfl ?_
  clear hE a; intro a hE
  refine d_skip p34_3_13 ns34_3 (by kernel_rfl) (by kernel_rfl) (fun _ _ _ h => h) hE (wn_some g34_3_2 rfl rfl) rfl ⟨B_g, trivial⟩ rfl ?_
  clear hE a; intro a hE
  refine d_skip p34_3_14 ns34_3 (by kernel_rfl) (by kernel_rfl) (fun _ _ _ h => h) hE (wn_some g34_3_2 rfl rfl) rfl ⟨B_g, trivial⟩ rfl ?_
  clear hE a; intro a hE
  refine d_take (v := Value.bool true) p34_3_15 ns34_3 (by kernel_rfl) (by kernel_rfl) (fun _ _ _ h => h) hE wn_none rfl ⟨B_g, trivial⟩ (fun W hS => (st_pick rfl rfl)) rfl ?_
  clear hE a; intro a hE
  refine d_end (by kernel_rfl) ?_
  refine x_norm ?_
  refine c_cond (t := true) hE rfl ?_
  refine c_reg R34_4_l ?_
  refine q0 p34_4_0 hE (st_move rfl) ?_
  clear hE a; intro a hE
  refine q0 p34_4_1 hE (st_assign rfl) ?_
  clear hE a; intro a hE
  refine p_nil ?_
  refine x_norm ?_
  refine wp_ret ?_
  refine x_ret ?_
  refine x_retB ?_
  refine x_ret ?_
  refine x_retB ?_
  refine ret_one (v := Value.slice none 0 0) rfl hE (.tmp rfl .nil) ?_
  exact ⟨rfl, K_0⟩
theorem R10_0_l : List.range (regOf Try.f10 0).size = [0] := by kernel_rfl
theorem R10_1_l : List.range (regOf Try.f10 1).size = [0, 1, 2, 3, 4, 5, 6, 7, 8] := by kernel_rfl
theorem R10_2_l : List.range (regOf Try.f10 2).size = [0] := by kernel_rfl
theorem R10_3_l : List.range (regOf Try.f10 3).size = [0, 1, 2, 3, 4, 5, 6, 7, 8, 9] := by kernel_rfl
theorem R10_4_l : List.range (regOf Try.f10 4).size = [0, 1, 2] := by kernel_rfl
theorem body10 : Try.f10.body = some (.seq (.region 0 (regOf Try.f10 0) false) (.seq (.seq (.region 1 (regOf Try.f10 1) false) (.cond (Operand.tmp 11) (.seq (.region 2 (regOf Try.f10 2) false) (.ret)) (.skip))) (.seq (.region 3 (regOf Try.f10 3) false) (.seq (.region 4 (regOf Try.f10 4) false) (.ret))))) := by kernel_rfl
theorem p10_0_0 : pj (regOf Try.f10 0) 0 = some (some 2, .assign (.const (.slice none 0 0)), 35, none) := by kernel_rfl
theorem p10_1_0 : pj (regOf Try.f10 1) 0 = some (some 3, .move (.tmp 0), 24, none) := by kernel_rfl
theorem p10_1_1 : pj (regOf Try.f10 1) 1 = some (some 4, .binOp .eql 24 (.tmp 3) (.const (.pointer none)) 24, 4, none) := by kernel_rfl
theorem tP24 : Try.prog.underlying 24 = some (.pointer (Try.prog.pointee 24)) := by kernel_rfl
theorem p10_1_2 : pj (regOf Try.f10 1) 2 = some (some 5, .move (.tmp 4), 4, none) := by kernel_rfl
theorem p10_1_3 : pj (regOf Try.f10 1) 3 = some (some 6, .move (.tmp 0), 24, some (2, false)) := by kernel_rfl
theorem g10_1_2 : dstOf (regOf Try.f10 1) 2 = some 5 := by kernel_rfl
theorem p10_1_4 : pj (regOf Try.f10 1) 4 = some (some 7, .nilCheck (.tmp 6), 0, some (2, false)) := by kernel_rfl
theorem p10_1_5 : pj (regOf Try.f10 1) 5 = some (some 8, .fieldAddr 29 (.tmp 7) 0, 0, some (2, false)) := by kernel_rfl
theorem tS26 : (Try.prog.info? 26).map (·.size) = some 1 := by kernel_rfl
theorem p10_1_6 : pj (regOf Try.f10 1) 6 = some (some 9, .call { callee := .value (.func 33), args := #[.tmp 8], argTypes := #[26] }, 4, some (2, false)) := by kernel_rfl
theorem cl33 : callable Try.f33 = true := by kernel_rfl
theorem p10_1_7 : pj (regOf Try.f10 1) 7 = some (some 10, .unOp .not 4 (.tmp 9), 4, some (2, false)) := by kernel_rfl
theorem p10_1_8 : pj (regOf Try.f10 1) 8 = some (some 11, .pick (.tmp 5) (.const (.bool true)) (.tmp 10), 4, none) := by kernel_rfl
theorem p10_3_0 : pj (regOf Try.f10 3) 0 = some (some 12, .move (.tmp 0), 24, none) := by kernel_rfl
theorem p10_3_1 : pj (regOf Try.f10 3) 1 = some (some 13, .nilCheck (.tmp 12), 0, none) := by kernel_rfl
theorem p10_3_2 : pj (regOf Try.f10 3) 2 = some (some 14, .fieldAddr 29 (.tmp 13) 0, 0, none) := by kernel_rfl
theorem p10_3_3 : pj (regOf Try.f10 3) 3 = some (some 15, .fieldAddr 26 (.tmp 14) 0, 0, none) := by kernel_rfl
theorem tS3 : (Try.prog.info? 3).map (·.size) = some 1 := by kernel_rfl
theorem p10_3_4 : pj (regOf Try.f10 3) 4 = some (some 16, .load 3 (.tmp 15), 3, none) := by kernel_rfl
theorem tA3 : (Try.prog.underlying 3).map aggD = some false := by kernel_rfl
theorem p10_3_5 : pj (regOf Try.f10 3) 5 = some (some 17, .binOp .add 3 (.tmp 16) (.const (.int .i64 1)) 3, 3, none) := by kernel_rfl
theorem p10_3_6 : pj (regOf Try.f10 3) 6 = some (some 18, .nilCheck (.tmp 12), 0, none) := by kernel_rfl
theorem p10_3_7 : pj (regOf Try.f10 3) 7 = some (some 19, .fieldAddr 29 (.tmp 18) 0, 0, none) := by kernel_rfl
theorem p10_3_8 : pj (regOf Try.f10 3) 8 = some (some 20, .fieldAddr 26 (.tmp 19) 0, 0, none) := by kernel_rfl
theorem p10_3_9 : pj (regOf Try.f10 3) 9 = some (none, .store 3 (.tmp 20) (.tmp 17), 0, none) := by kernel_rfl
theorem p10_4_0 : pj (regOf Try.f10 4) 0 = some (some 21, .move (.tmp 0), 24, none) := by kernel_rfl
theorem p10_4_1 : pj (regOf Try.f10 4) 1 = some (some 22, .call { callee := .value (.func 34), args := #[.tmp 21], argTypes := #[24] }, 35, none) := by kernel_rfl
theorem cl34 : callable Try.f34 = true := by kernel_rfl
theorem p10_4_2 : pj (regOf Try.f10 4) 2 = some (some 2, .assign (.tmp 22), 35, none) := by kernel_rfl
set_option maxHeartbeats 4000000 in
theorem tick_nil (g : Nat) (now : Int) (w : World) (hnow : 0 ≤ now ∧ now < 2305843009213693952) (hg : w.heap[g]? = some (.cells #[.int .i64 now, .map none] 29 (0, 0))) : Calls Try.prog 10 #[.pointer (some ⟨g, 0, none⟩)] w fun e w' => e = .returned (.slice none 0 0) ∧ w'.heap[g]? = some (.cells #[.int .i64 (now + 1), .map none] 29 (0, 0)) ∧ Kp w w' (fun k => k = g) := by
  have K_0 := Kp.refl w (fun k => k = g)
  have B_g := hg
  refine enter (args := [Value.pointer (some ⟨g, 0, none⟩)]) (n := 23) Try.func10 body10 rfl rfl rfl ?_
  intro a hE
  refine c_reg R10_0_l ?_
  refine q0 p10_0_0 hE (st_assign rfl) ?_
  clear hE a; intro a hE
  refine p_nil ?_
  refine x_norm ?_
  refine wp_seq ?_
  refine c_reg R10_1_l ?_
  refine q0 p10_1_0 hE (st_move rfl) ?_
  clear hE a; intro a hE
  refine q0 p10_1_1 hE (st_eqlP (b := false) tP24 rfl rfl rfl) ?_
  clear hE a; intro a hE
  refine q0 p10_1_2 hE (st_move rfl) ?_
  clear hE a; intro a hE
  refine p_cons (s_still p10_1_3 hE (wn_some g10_1_2 rfl rfl) rfl (st_move rfl) ?_)
  clear hE a; intro a hE
  refine p_cons (s_still p10_1_4 hE (wn_some g10_1_2 rfl rfl) rfl (st_nil rfl) ?_)
  clear hE a; intro a hE
  refine p_cons (s_still p10_1_5 hE (wn_some g10_1_2 rfl rfl) rfl (st_fieldAddr Try.underlying29 rfl tS26 rfl rfl) ?_)
  clear hE a; intro a hE
  refine p_cons (s_call (xs := [Operand.tmp 8]) (args := [Value.pointer (some ⟨g, 0, none⟩)]) p10_1_6 hE (wn_some g10_1_2 rfl rfl) rfl rfl Try.func33 cl33 (may_yes g now (Value.map none) _ hnow.2 B_g) ?_)
  rintro e w1 ⟨rfl, hk⟩
  replace B_g := kp_blk B_g hk (fun h => h)
  replace K_0 := K_0.then_ hk (fun _ h => h.elim)
  refine ⟨_, rfl, ?_⟩
  clear hE a; intro a hE
  refine p_cons (s_still p10_1_7 hE (wn_some g10_1_2 rfl rfl) rfl (st_not rfl rfl) ?_)
  clear hE a; intro a hE
  refine q0 p10_1_8 hE (st_pick rfl rfl) ?_
  clear hE a; intro a hE
  refine p_nil ?_
  refine x_norm ?_
  refine c_cond (t := false) hE rfl ?_
  refine wp_skip ?_
  refine x_norm ?_
  refine c_reg R10_3_l ?_
  refine q0 p10_3_0 hE (st_move rfl) ?_
  clear hE a; intro a hE
  refine q0 p10_3_1 hE (st_nil rfl) ?_
  clear hE a; intro a hE
  refine q0 p10_3_2 hE (st_fieldAddr Try.underlying29 rfl tS26 rfl rfl) ?_
  clear hE a; intro a hE
  refine q0 p10_3_3 hE (st_fieldAddr Try.underlying26 rfl tS3 rfl rfl) ?_
  clear hE a; intro a hE
  refine q0 p10_3_4 hE (st_load1 tA3 rfl ((blk_cell B_g 0).trans rfl)) ?_
  clear hE a; intro a hE
  refine q0 p10_3_5 hE (st_add (z := now + 1) rfl rfl (wr_i64 _ (by omega) (by omega))) ?_
  clear hE a; intro a hE
  refine q0 p10_3_6 hE (st_nil rfl) ?_
  clear hE a; intro a hE
  refine q0 p10_3_7 hE (st_fieldAddr Try.underlying29 rfl tS26 rfl rfl) ?_
  clear hE a; intro a hE
  refine q0 p10_3_8 hE (st_fieldAddr Try.underlying26 rfl tS3 rfl rfl) ?_
  clear hE a; intro a hE
  refine p_cons (s_store (off := 0) (k := 1) (cs' := #[Value.int .i64 (now + 1), Value.map none]) p10_3_9 hE wn_none tS3 rfl rfl rfl rfl B_g (Nat.le_of_ble_eq_true rfl) rfl ?_)
  intro w2 B_g' hk
  replace K_0 := K_0.then_ hk (fun k h => by rw [show k = g from h]; exact Or.inl rfl)
  replace B_g := B_g'
  clear hk
  refine p_nil ?_
  refine x_norm ?_
  refine c_reg R10_4_l ?_
  refine q0 p10_4_0 hE (st_move rfl) ?_
  clear hE a; intro a hE
  refine p_cons (s_call (xs := [Operand.tmp 21]) (args := [Value.pointer (some ⟨g, 0, none⟩)]) p10_4_1 hE wn_none rfl rfl Try.func34 cl34 (fire_nil g (now + 1) _ B_g) ?_)
  rintro e w3 ⟨rfl, hk⟩
  replace B_g := kp_blk B_g hk (fun h => h)
  replace K_0 := K_0.then_ hk (fun _ h => h.elim)
  refine ⟨_, rfl, ?_⟩
  clear hE a; intro a hE
  refine q0 p10_4_2 hE (st_assign rfl) ?_
  clear hE a; intro a hE
  refine p_nil ?_
  refine x_norm ?_
  refine wp_ret ?_
  refine ret_one (v := Value.slice none 0 0) rfl hE (.tmp rfl .nil) ?_
  exact ⟨rfl, B_g, K_0⟩
theorem R13_0_l : List.range (regOf Try.f13 0).size = [0, 1] := by kernel_rfl
theorem R13_1_l : List.range (regOf Try.f13 1).size = [0, 1, 2] := by kernel_rfl
theorem R13_2_l : List.range (regOf Try.f13 2).size = [0, 1] := by kernel_rfl
theorem R13_3_l : List.range (regOf Try.f13 3).size = [0, 1, 2, 3, 4, 5, 6] := by kernel_rfl
theorem R13_4_l : List.range (regOf Try.f13 4).size = [0, 1] := by kernel_rfl
theorem R13_5_l : List.range (regOf Try.f13 5).size = [0, 1, 2, 3, 4, 5, 6, 7, 8, 9, 10, 11, 12, 13, 14, 15, 16, 17] := by kernel_rfl
theorem R13_6_l : List.range (regOf Try.f13 6).size = [0, 1, 2, 3] := by kernel_rfl
theorem body13 : Try.f13.body = some (.seq (.region 0 (regOf Try.f13 0) false) (.seq (.block 0 (.seq (.region 1 (regOf Try.f13 1) false) (.cond (Operand.tmp 6) (.seq (.region 2 (regOf Try.f13 2) false) (.ret)) (.seq (.region 3 (regOf Try.f13 3) false) (.cond (Operand.tmp 9) (.seq (.region 4 (regOf Try.f13 4) false) (.ret)) (.skip)))))) (.seq (.region 5 (regOf Try.f13 5) true) (.seq (.region 6 (regOf Try.f13 6) false) (.ret))))) := by kernel_rfl
theorem p13_0_0 : pj (regOf Try.f13 0) 0 = some (some 4, .assign (.const (.slice none 0 0)), 35, none) := by kernel_rfl
theorem p13_0_1 : pj (regOf Try.f13 0) 1 = some (some 5, .assign (.const (.int .i64 0)), 30, none) := by kernel_rfl
theorem p13_1_0 : pj (regOf Try.f13 1) 0 = some (some 7, .move (.tmp 0), 24, none) := by kernel_rfl
theorem p13_1_1 : pj (regOf Try.f13 1) 1 = some (some 8, .binOp .eql 24 (.tmp 7) (.const (.pointer none)) 24, 4, none) := by kernel_rfl
theorem p13_1_2 : pj (regOf Try.f13 1) 2 = some (some 6, .assign (.tmp 8), 4, none) := by kernel_rfl
theorem p13_3_0 : pj (regOf Try.f13 3) 0 = some (some 10, .move (.tmp 1), 3, none) := by kernel_rfl
theorem p13_3_1 : pj (regOf Try.f13 3) 1 = some (some 11, .binOp .lss 3 (.tmp 10) (.const (.int .i64 0)) 3, 4, none) := by kernel_rfl
theorem p13_3_2 : pj (regOf Try.f13 3) 2 = some (some 12, .move (.tmp 11), 4, none) := by kernel_rfl
theorem p13_3_3 : pj (regOf Try.f13 3) 3 = some (some 13, .move (.tmp 1), 3, some (2, false)) := by kernel_rfl
theorem g13_3_2 : dstOf (regOf Try.f13 3) 2 = some 12 := by kernel_rfl
theorem p13_3_4 : pj (regOf Try.f13 3) 4 = some (some 14, .binOp .gtr 3 (.tmp 13) (.const (.int .i64 1099511627776)) 3, 4, some (2, false)) := by kernel_rfl
theorem p13_3_5 : pj (regOf Try.f13 3) 5 = some (some 15, .pick (.tmp 12) (.const (.bool true)) (.tmp 14), 4, none) := by kernel_rfl
theorem p13_3_6 : pj (regOf Try.f13 3) 6 = some (some 9, .assign (.tmp 15), 4, none) := by kernel_rfl
theorem ns13_5 : Region.noSelect (regOf Try.f13 5) = true := by kernel_rfl
theorem p13_5_0 : pj (regOf Try.f13 5) 0 = some (some 16, .move (.tmp 0), 24, none) := by kernel_rfl
theorem p13_5_1 : pj (regOf Try.f13 5) 1 = some (some 17, .nilCheck (.tmp 16), 0, none) := by kernel_rfl
theorem p13_5_2 : pj (regOf Try.f13 5) 2 = some (some 18, .fieldAddr 29 (.tmp 17) 0, 0, none) := by kernel_rfl
theorem p13_5_3 : pj (regOf Try.f13 5) 3 = some (some 19, .fieldAddr 26 (.tmp 18) 0, 0, none) := by kernel_rfl
theorem p13_5_5 : pj (regOf Try.f13 5) 5 = some (some 21, .move (.tmp 1), 3, none) := by kernel_rfl
theorem p13_5_6 : pj (regOf Try.f13 5) 6 = some (some 22, .move (.tmp 0), 24, none) := by kernel_rfl
theorem p13_5_7 : pj (regOf Try.f13 5) 7 = some (some 23, .nilCheck (.tmp 22), 0, none) := by kernel_rfl
theorem p13_5_8 : pj (regOf Try.f13 5) 8 = some (some 24, .fieldAddr 29 (.tmp 23) 0, 0, none) := by kernel_rfl
theorem p13_5_9 : pj (regOf Try.f13 5) 9 = some (some 25, .fieldAddr 26 (.tmp 24) 0, 0, none) := by kernel_rfl
theorem p13_5_4 : pj (regOf Try.f13 5) 4 = some (some 20, .load 3 (.tmp 19), 3, none) := by kernel_rfl
theorem p13_5_10 : pj (regOf Try.f13 5) 10 = some (some 26, .load 3 (.tmp 25), 3, none) := by kernel_rfl
theorem p13_5_11 : pj (regOf Try.f13 5) 11 = some (some 27, .binOp .sub 3 (.const (.int .i64 2305843009213693952)) (.tmp 26) 3, 3, none) := by kernel_rfl
theorem p13_5_12 : pj (regOf Try.f13 5) 12 = some (some 28, .call { callee := .builtin .min, args := #[.tmp 21, .tmp 27], argTypes := #[3, 3] }, 3, none) := by kernel_rfl
theorem p13_5_13 : pj (regOf Try.f13 5) 13 = some (some 29, .binOp .add 3 (.tmp 20) (.tmp 28) 3, 3, none) := by kernel_rfl
theorem p13_5_14 : pj (regOf Try.f13 5) 14 = some (some 30, .nilCheck (.tmp 16), 0, none) := by kernel_rfl
theorem p13_5_15 : pj (regOf Try.f13 5) 15 = some (some 31, .fieldAddr 29 (.tmp 30) 0, 0, none) := by kernel_rfl
theorem p13_5_16 : pj (regOf Try.f13 5) 16 = some (some 32, .fieldAddr 26 (.tmp 31) 0, 0, none) := by kernel_rfl
theorem p13_5_17 : pj (regOf Try.f13 5) 17 = some (none, .store 3 (.tmp 32) (.tmp 29), 0, none) := by kernel_rfl
theorem p13_6_0 : pj (regOf Try.f13 6) 0 = some (some 33, .move (.tmp 0), 24, none) := by kernel_rfl
theorem p13_6_1 : pj (regOf Try.f13 6) 1 = some (some 34, .call { callee := .value (.func 34), args := #[.tmp 33], argTypes := #[24] }, 35, none) := by kernel_rfl
theorem p13_6_2 : pj (regOf Try.f13 6) 2 = some (some 4, .assign (.tmp 34), 35, none) := by kernel_rfl
theorem p13_6_3 : pj (regOf Try.f13 6) 3 = some (some 5, .assign (.const (.int .i64 0)), 30, none) := by kernel_rfl
set_option maxHeartbeats 4000000 in
theorem run_nil (g : Nat) (now : Int) (n mn : Int) (w : World) (hmn : (if 2305843009213693952 - now < n then 2305843009213693952 - now else n) = mn) (hn : 0 ≤ n ∧ n ≤ 1099511627776) (hnow : 0 ≤ now ∧ now ≤ 2305843009213693952) (hg : w.heap[g]? = some (.cells #[.int .i64 now, .map none] 29 (0, 0))) : Calls Try.prog 13 #[.pointer (some ⟨g, 0, none⟩), .int .i64 n] w fun e w' => e = .returned (.tuple #[.slice none 0 0, .int .i64 0]) ∧ w'.heap[g]? = some (.cells #[.int .i64 (now + mn), .map none] 29 (0, 0)) ∧ Kp w w' (fun k => k = g) := by
  have K_0 := Kp.refl w (fun k => k = g)
  have B_g := hg
  have hmb : 0 ≤ mn ∧ now + mn ≤ 2305843009213693952 := by rw [← hmn]; split <;> omega
  refine enter (args := [Value.pointer (some ⟨g, 0, none⟩), Value.int .i64 n]) (n := 35) Try.func13 body13 rfl rfl rfl ?_
  intro a hE
  refine c_reg R13_0_l ?_
  refine q0 p13_0_0 hE (st_assign rfl) ?_
  clear hE a; intro a hE
  refine q0 p13_0_1 hE (st_assign rfl) ?_
  clear hE a; intro a hE
  refine p_nil ?_
  refine x_norm ?_
  refine wp_seq ?_
  refine wp_block ?_
  refine c_reg R13_1_l ?_
  refine q0 p13_1_0 hE (st_move rfl) ?_
  clear hE a; intro a hE
  refine q0 p13_1_1 hE (st_eqlP (b := false) tP24 rfl rfl rfl) ?_
  clear hE a; intro a hE
  refine q0 p13_1_2 hE (st_assign rfl) ?_
  clear hE a; intro a hE
  refine p_nil ?_
  refine x_norm ?_
  refine c_cond (t := false) hE rfl ?_
  refine c_reg R13_3_l ?_
  refine q0 p13_3_0 hE (st_move rfl) ?_
  clear hE a; intro a hE
  refine q0 p13_3_1 hE (st_lss (b := false) rfl rfl (decide_eq_false (by omega))) ?_
  clear hE a; intro a hE
  refine q0 p13_3_2 hE (st_move rfl) ?_
  clear hE a; intro a hE
  refine p_cons (s_still p13_3_3 hE (wn_some g13_3_2 rfl rfl) rfl (st_move rfl) ?_)
  clear hE a; intro a hE
  refine p_cons (s_still p13_3_4 hE (wn_some g13_3_2 rfl rfl) rfl (st_gtr (b := false) rfl rfl (decide_eq_false (by omega))) ?_)
  clear hE a; intro a hE
  refine q0 p13_3_5 hE (st_pick rfl rfl) ?_
  clear hE a; intro a hE
  refine q0 p13_3_6 hE (st_assign rfl) ?_
  clear hE a; intro a hE
  refine p_nil ?_
  refine x_norm ?_
  refine c_cond (t := false) hE rfl ?_
  refine wp_skip ?_
  refine x_normB ?_
  refine x_norm ?_
  refine c_drawMS (S := fun W => True) rfl rfl (listed := #[false, false, false, false, false, false, false, false, false, false, false, false, false, false, false, false, false, false]) rfl pan_body (fun QQ hQ hend => ?_)
  have dr5_4 : ∀ (W : World) (a : Act), En 35 a [(0, Value.pointer (some ⟨g, 0, none⟩)), (1, Value.int .i64 n), (4, Value.slice none 0 0), (5, Value.int .i64 0), (6, Value.bool false), (9, Value.bool false), (16, Value.pointer (some ⟨g, 0, none⟩)), (17, Value.pointer (some ⟨g, 0, none⟩)), (18, Value.pointer (some ⟨g, 0, none⟩)), (19, Value.pointer (some ⟨g, 0, none⟩)), (20, Value.int .i64 now), (21, Value.int .i64 n), (22, Value.pointer (some ⟨g, 0, none⟩)), (23, Value.pointer (some ⟨g, 0, none⟩)), (24, Value.pointer (some ⟨g, 0, none⟩)), (25, Value.pointer (some ⟨g, 0, none⟩)), (26, Value.int .i64 now), (27, Value.int .i64 (2305843009213693952 - now)), (28, Value.int .i64 mn), (29, Value.int .i64 (now + mn)), (30, Value.pointer (some ⟨g, 0, none⟩)), (31, Value.pointer (some ⟨g, 0, none⟩)), (32, Value.pointer (some ⟨g, 0, none⟩))] → W.heap[g]? = some (.cells #[Value.int .i64 (now + mn), Value.map none] 29 (0, 0)) → Kp w W (fun k => k = g) → wpAnyH Try.prog .any (regOf Try.f13 5) QQ (fun W => True) 0 #[true, true, true, true, true, true, true, true, true, true, true, true, true, true, true, true, true, true] a W := by
    intro w3 a hE B_g K_0
    refine d_end (by kernel_rfl) (hend _ _ ?_)
    refine c_reg R13_6_l ?_
    refine q0 p13_6_0 hE (st_move rfl) ?_
    clear hE a; intro a hE
    refine p_cons (s_call (xs := [Operand.tmp 33]) (args := [Value.pointer (some ⟨g, 0, none⟩)]) p13_6_1 hE wn_none rfl rfl Try.func34 cl34 (fire_nil g (now + mn) _ B_g) ?_)
    rintro e w4 ⟨rfl, hk⟩
    replace B_g := kp_blk B_g hk (fun h => h)
    replace K_0 := K_0.then_ hk (fun _ h => h.elim)
    refine ⟨_, rfl, ?_⟩
    clear hE a; intro a hE
    refine q0 p13_6_2 hE (st_assign rfl) ?_
    clear hE a; intro a hE
    refine q0 p13_6_3 hE (st_assign rfl) ?_
    clear hE a; intro a hE
    refine p_nil ?_
    refine x_norm ?_
    refine wp_ret ?_
    refine ret_list (rs := [.tmp 4, .tmp 5]) (vs := [Value.slice none 0 0, Value.int .i64 0]) rfl hE (.tmp rfl (.tmp rfl .nil)) rfl ?_
    exact ⟨rfl, B_g, K_0⟩
  have dr5_3 : ∀ (W : World) (a : Act), En 35 a [(0, Value.pointer (some ⟨g, 0, none⟩)), (1, Value.int .i64 n), (4, Value.slice none 0 0), (5, Value.int .i64 0), (6, Value.bool false), (9, Value.bool false), (16, Value.pointer (some ⟨g, 0, none⟩)), (17, Value.pointer (some ⟨g, 0, none⟩)), (18, Value.pointer (some ⟨g, 0, none⟩)), (19, Value.pointer (some ⟨g, 0, none⟩)), (20, Value.int .i64 now), (21, Value.int .i64 n), (22, Value.pointer (some ⟨g, 0, none⟩)), (23, Value.pointer (some ⟨g, 0, none⟩)), (24, Value.pointer (some ⟨g, 0, none⟩)), (25, Value.pointer (some ⟨g, 0, none⟩)), (26, Value.int .i64 now), (27, Value.int .i64 (2305843009213693952 - now)), (28, Value.int .i64 mn), (29, Value.int .i64 (now + mn)), (30, Value.pointer (some ⟨g, 0, none⟩)), (31, Value.pointer (some ⟨g, 0, none⟩)), (32, Value.pointer (some ⟨g, 0, none⟩))] → W.heap[g]? = some (.cells #[Value.int .i64 now, Value.map none] 29 (0, 0)) → Kp w W (fun k => k = g) → wpAnyH Try.prog .any (regOf Try.f13 5) QQ (fun W => True) 1 #[true, true, true, true, true, true, true, true, true, true, true, true, true, true, true, true, true, false] a W := by
    intro w5 a hE B_g K_0
    refine d_all (rs := [17]) (by kernel_rfl) rfl ?_
    refine all_cons (d_lit (listed' := #[true, true, true, true, true, true, true, true, true, true, true, true, true, true, true, true, true, true]) rfl ?_) ?_
    ·
      refine (s_store (off := 0) (k := 1) (cs' := #[Value.int .i64 (now + mn), Value.map none]) p13_5_17 hE wn_none tS3 rfl rfl rfl rfl B_g (Nat.le_of_ble_eq_true rfl) rfl ?_)
      intro w6 B_g' hk
      replace K_0 := K_0.then_ hk (fun k h => by rw [show k = g from h]; exact Or.inl rfl)
      replace B_g := B_g'
      clear hk
      refine ⟨trivial, ?_⟩
      exact dr5_4 _ a (En.sub hE ⟨rfl, rfl, rfl, rfl, rfl, rfl, rfl, rfl, rfl, rfl, rfl, rfl, rfl, rfl, rfl, rfl, rfl, rfl, rfl, rfl, rfl, rfl, rfl, trivial⟩) B_g K_0
    exact all_nil
  have dr5_2 : ∀ (W : World) (a : Act), En 35 a [(0, Value.pointer (some ⟨g, 0, none⟩)), (1, Value.int .i64 n), (4, Value.slice none 0 0), (5, Value.int .i64 0), (6, Value.bool false), (9, Value.bool false), (16, Value.pointer (some ⟨g, 0, none⟩)), (17, Value.pointer (some ⟨g, 0, none⟩)), (18, Value.pointer (some ⟨g, 0, none⟩)), (19, Value.pointer (some ⟨g, 0, none⟩)), (21, Value.int .i64 n), (22, Value.pointer (some ⟨g, 0, none⟩)), (23, Value.pointer (some ⟨g, 0, none⟩)), (24, Value.pointer (some ⟨g, 0, none⟩)), (25, Value.pointer (some ⟨g, 0, none⟩)), (26, Value.int .i64 now), (27, Value.int .i64 (2305843009213693952 - now)), (28, Value.int .i64 mn)] → W.heap[g]? = some (.cells #[Value.int .i64 now, Value.map none] 29 (0, 0)) → Kp w W (fun k => k = g) → wpAnyH Try.prog .any (regOf Try.f13 5) QQ (fun W => True) 6 #[true, true, true, true, false, true, true, true, true, true, true, true, true, false, false, false, false, false] a W := by
    intro w7 a hE B_g K_0
    refine d_all (rs := [4]) (by kernel_rfl) rfl ?_
    refine all_cons (d_lit (listed' := #[true, true, true, true, true, true, true, true, true, true, true, true, true, false, false, false, false, false]) rfl ?_) ?_
    ·
      refine (s_still p13_5_4 hE wn_none rfl (st_load1 tA3 rfl ((blk_cell B_g 0).trans rfl)) ?_)
      clear hE a; intro a hE
      refine ⟨trivial, ?_⟩
      refine d_take (v := Value.int .i64 (now + mn)) p13_5_13 ns13_5 (by kernel_rfl) (by kernel_rfl) (fun c a w h => hQ c a _ _ w h) hE wn_none rfl trivial (fun W hS => (st_add (z := now + mn) rfl rfl (wr_i64 _ (by omega) (by omega)))) (listed' := #[true, true, true, true, true, true, true, true, true, true, true, true, true, true, false, false, false, false]) rfl ?_
      clear hE a; intro a hE
      refine d_take (v := Value.pointer (some ⟨g, 0, none⟩)) p13_5_14 ns13_5 (by kernel_rfl) (by kernel_rfl) (fun c a w h => hQ c a _ _ w h) hE wn_none rfl trivial (fun W hS => (st_nil rfl)) (listed' := #[true, true, true, true, true, true, true, true, true, true, true, true, true, true, true, false, false, false]) rfl ?_
      clear hE a; intro a hE
      refine d_take (v := Value.pointer (some ⟨g, 0, none⟩)) p13_5_15 ns13_5 (by kernel_rfl) (by kernel_rfl) (fun c a w h => hQ c a _ _ w h) hE wn_none rfl trivial (fun W hS => (st_fieldAddr Try.underlying29 rfl tS26 rfl rfl)) (listed' := #[true, true, true, true, true, true, true, true, true, true, true, true, true, true, true, true, false, false]) rfl ?_
      clear hE a; intro a hE
      refine d_take (v := Value.pointer (some ⟨g, 0, none⟩)) p13_5_16 ns13_5 (by kernel_rfl) (by kernel_rfl) (fun c a w h => hQ c a _ _ w h) hE wn_none rfl trivial (fun W hS => (st_fieldAddr Try.underlying26 rfl tS3 rfl rfl)) (listed' := #[true, true, true, true, true, true, true, true, true, true, true, true, true, true, true, true, true, false]) rfl ?_
      clear hE a; intro a hE
      exact dr5_3 _ a (En.sub hE ⟨rfl, rfl, rfl, rfl, rfl, rfl, rfl, rfl, rfl, rfl, rfl, rfl, rfl, rfl, rfl, rfl, rfl, rfl, rfl, rfl, rfl, rfl, rfl, trivial⟩) B_g K_0
    exact all_nil
  have dr5_1 : ∀ (W : World) (a : Act), En 35 a [(0, Value.pointer (some ⟨g, 0, none⟩)), (1, Value.int .i64 n), (4, Value.slice none 0 0), (5, Value.int .i64 0), (6, Value.bool false), (9, Value.bool false), (16, Value.pointer (some ⟨g, 0, none⟩)), (17, Value.pointer (some ⟨g, 0, none⟩)), (18, Value.pointer (some ⟨g, 0, none⟩)), (19, Value.pointer (some ⟨g, 0, none⟩)), (20, Value.int .i64 now), (21, Value.int .i64 n), (22, Value.pointer (some ⟨g, 0, none⟩)), (23, Value.pointer (some ⟨g, 0, none⟩)), (24, Value.pointer (some ⟨g, 0, none⟩)), (25, Value.pointer (some ⟨g, 0, none⟩))] → W.heap[g]? = some (.cells #[Value.int .i64 now, Value.map none] 29 (0, 0)) → Kp w W (fun k => k = g) → wpAnyH Try.prog .any (regOf Try.f13 5) QQ (fun W => True) 8 #[true, true, true, true, true, true, true, true, true, true, false, false, false, false, false, false, false, false] a W := by
    intro w8 a hE B_g K_0
    refine d_all (rs := [10]) (by kernel_rfl) rfl ?_
    refine all_cons (d_lit (listed' := #[true, true, true, true, true, true, true, true, true, true, true, false, false, false, false, false, false, false]) rfl ?_) ?_
    ·
      refine (s_still p13_5_10 hE wn_none rfl (st_load1 tA3 rfl ((blk_cell B_g 0).trans rfl)) ?_)
      clear hE a; intro a hE
      refine ⟨trivial, ?_⟩
      refine d_take (v := Value.int .i64 (2305843009213693952 - now)) p13_5_11 ns13_5 (by kernel_rfl) (by kernel_rfl) (fun c a w h => hQ c a _ _ w h) hE wn_none rfl trivial (fun W hS => (st_sub (z := 2305843009213693952 - now) rfl rfl (wr_i64 _ (by omega) (by omega)))) (listed' := #[true, true, true, true, true, true, true, true, true, true, true, true, false, false, false, false, false, false]) rfl ?_
      clear hE a; intro a hE
      refine d_take (v := Value.int .i64 mn) p13_5_12 ns13_5 (by kernel_rfl) (by kernel_rfl) (fun c a w h => hQ c a _ _ w h) hE wn_none rfl trivial (fun W hS => (st_min (z := mn) rfl rfl hmn)) (listed' := #[true, true, true, true, true, true, true, true, true, true, true, true, true, false, false, false, false, false]) rfl ?_
      clear hE a; intro a hE
      refine d_take (v := Value.int .i64 (now + mn)) p13_5_13 ns13_5 (by kernel_rfl) (by kernel_rfl) (fun c a w h => hQ c a _ _ w h) hE wn_none rfl trivial (fun W hS => (st_add (z := now + mn) rfl rfl (wr_i64 _ (by omega) (by omega)))) (listed' := #[true, true, true, true, true, true, true, true, true, true, true, true, true, true, false, false, false, false]) rfl ?_
      clear hE a; intro a hE
      refine d_take (v := Value.pointer (some ⟨g, 0, none⟩)) p13_5_14 ns13_5 (by kernel_rfl) (by kernel_rfl) (fun c a w h => hQ c a _ _ w h) hE wn_none rfl trivial (fun W hS => (st_nil rfl)) (listed' := #[true, true, true, true, true, true, true, true, true, true, true, true, true, true, true, false, false, false]) rfl ?_
      clear hE a; intro a hE
      refine d_take (v := Value.pointer (some ⟨g, 0, none⟩)) p13_5_15 ns13_5 (by kernel_rfl) (by kernel_rfl) (fun c a w h => hQ c a _ _ w h) hE wn_none rfl trivial (fun W hS => (st_fieldAddr Try.underlying29 rfl tS26 rfl rfl)) (listed' := #[true, true, true, true, true, true, true, true, true, true, true, true, true, true, true, true, false, false]) rfl ?_
      clear hE a; intro a hE
      refine d_take (v := Value.pointer (some ⟨g, 0, none⟩)) p13_5_16 ns13_5 (by kernel_rfl) (by kernel_rfl) (fun c a w h => hQ c a _ _ w h) hE wn_none rfl trivial (fun W hS => (st_fieldAddr Try.underlying26 rfl tS3 rfl rfl)) (listed' := #[true, true, true, true, true, true, true, true, true, true, true, true, true, true, true, true, true, false]) rfl ?_
      clear hE a; intro a hE
      exact dr5_3 _ a (En.sub hE ⟨rfl, rfl, rfl, rfl, rfl, rfl, rfl, rfl, rfl, rfl, rfl, rfl, rfl, rfl, rfl, rfl, rfl, rfl, rfl, rfl, rfl, rfl, rfl, trivial⟩) B_g K_0
    exact all_nil
  have dr5_0 : ∀ (W : World) (a : Act), En 35 a [(0, Value.pointer (some ⟨g, 0, none⟩)), (1, Value.int .i64 n), (4, Value.slice none 0 0), (5, Value.int .i64 0), (6, Value.bool false), (9, Value.bool false), (16, Value.pointer (some ⟨g, 0, none⟩)), (17, Value.pointer (some ⟨g, 0, none⟩)), (18, Value.pointer (some ⟨g, 0, none⟩)), (19, Value.pointer (some ⟨g, 0, none⟩)), (21, Value.int .i64 n), (22, Value.pointer (some ⟨g, 0, none⟩)), (23, Value.pointer (some ⟨g, 0, none⟩)), (24, Value.pointer (some ⟨g, 0, none⟩)), (25, Value.pointer (some ⟨g, 0, none⟩))] → W.heap[g]? = some (.cells #[Value.int .i64 now, Value.map none] 29 (0, 0)) → Kp w W (fun k => k = g) → wpAnyH Try.prog .any (regOf Try.f13 5) QQ (fun W => True) 9 #[true, true, true, true, false, true, true, true, true, true, false, false, false, false, false, false, false, false] a W := by
    intro w9 a hE B_g K_0
    refine d_all (rs := [4, 10]) (by kernel_rfl) rfl ?_
    refine all_cons (d_lit (listed' := #[true, true, true, true, true, true, true, true, true, true, false, false, false, false, false, false, false, false]) rfl ?_) ?_
    ·
      refine (s_still p13_5_4 hE wn_none rfl (st_load1 tA3 rfl ((blk_cell B_g 0).trans rfl)) ?_)
      clear hE a; intro a hE
      refine ⟨trivial, ?_⟩
      exact dr5_1 _ a (En.sub hE ⟨rfl, rfl, rfl, rfl, rfl, rfl, rfl, rfl, rfl, rfl, rfl, rfl, rfl, rfl, rfl, rfl, trivial⟩) B_g K_0
    refine all_cons (d_lit (listed' := #[true, true, true, true, false, true, true, true, true, true, true, false, false, false, false, false, false, false]) rfl ?_) ?_
    ·
      refine (s_still p13_5_10 hE wn_none rfl (st_load1 tA3 rfl ((blk_cell B_g 0).trans rfl)) ?_)
      clear hE a; intro a hE
      refine ⟨trivial, ?_⟩
      refine d_take (v := Value.int .i64 (2305843009213693952 - now)) p13_5_11 ns13_5 (by kernel_rfl) (by kernel_rfl) (fun c a w h => hQ c a _ _ w h) hE wn_none rfl trivial (fun W hS => (st_sub (z := 2305843009213693952 - now) rfl rfl (wr_i64 _ (by omega) (by omega)))) (listed' := #[true, true, true, true, false, true, true, true, true, true, true, true, false, false, false, false, false, false]) rfl ?_
      clear hE a; intro a hE
      refine d_take (v := Value.int .i64 mn) p13_5_12 ns13_5 (by kernel_rfl) (by kernel_rfl) (fun c a w h => hQ c a _ _ w h) hE wn_none rfl trivial (fun W hS => (st_min (z := mn) rfl rfl hmn)) (listed' := #[true, true, true, true, false, true, true, true, true, true, true, true, true, false, false, false, false, false]) rfl ?_
      clear hE a; intro a hE
      exact dr5_2 _ a (En.sub hE ⟨rfl, rfl, rfl, rfl, rfl, rfl, rfl, rfl, rfl, rfl, rfl, rfl, rfl, rfl, rfl, rfl, rfl, rfl, trivial⟩) B_g K_0
    exact all_nil
  intro w1 hh hk
  replace B_g := kp_blk B_g hk (fun h => h)
  replace K_0 := K_0.then_ hk (fun _ h => h.elim)
  clear hh hk
  refine d_take (v := Value.pointer (some ⟨g, 0, none⟩)) p13_5_0 ns13_5 (by kernel_rfl) (by kernel_rfl) (fun c a w h => hQ c a _ _ w h) hE wn_none rfl trivial (fun W hS => (st_move rfl)) (listed' := #[true, false, false, false, false, false, false, false, false, false, false, false, false, false, false, false, false, false]) rfl ?_
  clear hE a; intro a hE
  refine d_take (v := Value.pointer (some ⟨g, 0, none⟩)) p13_5_1 ns13_5 (by kernel_rfl) (by kernel_rfl) (fun c a w h => hQ c a _ _ w h) hE wn_none rfl trivial (fun W hS => (st_nil rfl)) (listed' := #[true, true, false, false, false, false, false, false, false, false, false, false, false, false, false, false, false, false]) rfl ?_
  clear hE a; intro a hE
  refine d_take (v := Value.pointer (some ⟨g, 0, none⟩)) p13_5_2 ns13_5 (by kernel_rfl) (by kernel_rfl) (fun c a w h => hQ c a _ _ w h) hE wn_none rfl trivial (fun W hS => (st_fieldAddr Try.underlying29 rfl tS26 rfl rfl)) (listed' := #[true, true, true, false, false, false, false, false, false, false, false, false, false, false, false, false, false, false]) rfl ?_
  clear hE a; intro a hE
  refine d_take (v := Value.pointer (some ⟨g, 0, none⟩)) p13_5_3 ns13_5 (by kernel_rfl) (by kernel_rfl) (fun c a w h => hQ c a _ _ w h) hE wn_none rfl trivial (fun W hS => (st_fieldAddr Try.underlying26 rfl tS3 rfl rfl)) (listed' := #[true, true, true, true, false, false, false, false, false, false, false, false, false, false, false, false, false, false]) rfl ?_
  clear hE a; intro a hE
  refine d_take (v := Value.int .i64 n) p13_5_5 ns13_5 (by kernel_rfl) (by kernel_rfl) (fun c a w h => hQ c a _ _ w h) hE wn_none rfl trivial (fun W hS => (st_move rfl)) (listed' := #[true, true, true, true, false, true, false, false, false, false, false, false, false, false, false, false, false, false]) rfl ?_
  clear hE a; intro a hE
  refine d_take (v := Value.pointer (some ⟨g, 0, none⟩)) p13_5_6 ns13_5 (by kernel_rfl) (by kernel_rfl) (fun c a w h => hQ c a _ _ w h) hE wn_none rfl trivial (fun W hS => (st_move rfl)) (listed' := #[true, true, true, true, false, true, true, false, false, false, false, false, false, false, false, false, false, false]) rfl ?_
  clear hE a; intro a hE
  refine d_take (v := Value.pointer (some ⟨g, 0, none⟩)) p13_5_7 ns13_5 (by kernel_rfl) (by kernel_rfl) (fun c a w h => hQ c a _ _ w h) hE wn_none rfl trivial (fun W hS => (st_nil rfl)) (listed' := #[true, true, true, true, false, true, true, true, false, false, false, false, false, false, false, false, false, false]) rfl ?_
  clear hE a; intro a hE
  refine d_take (v := Value.pointer (some ⟨g, 0, none⟩)) p13_5_8 ns13_5 (by kernel_rfl) (by kernel_rfl) (fun c a w h => hQ c a _ _ w h) hE wn_none rfl trivial (fun W hS => (st_fieldAddr Try.underlying29 rfl tS26 rfl rfl)) (listed' := #[true, true, true, true, false, true, true, true, true, false, false, false, false, false, false, false, false, false]) rfl ?_
  clear hE a; intro a hE
  refine d_take (v := Value.pointer (some ⟨g, 0, none⟩)) p13_5_9 ns13_5 (by kernel_rfl) (by kernel_rfl) (fun c a w h => hQ c a _ _ w h) hE wn_none rfl trivial (fun W hS => (st_fieldAddr Try.underlying26 rfl tS3 rfl rfl)) (listed' := #[true, true, true, true, false, true, true, true, true, true, false, false, false, false, false, false, false, false]) rfl ?_
  clear hE a; intro a hE
  exact dr5_0 _ a (En.sub hE ⟨rfl, rfl, rfl, rfl, rfl, rfl, rfl, rfl, rfl, rfl, rfl, rfl, rfl, rfl, rfl, trivial⟩) B_g K_0
theorem R14_0_l : List.range (regOf Try.f14 0).size = [0, 1] := by kernel_rfl
theorem R14_1_l : List.range (regOf Try.f14 1).size = [0, 1] := by kernel_rfl
theorem R14_2_l : List.range (regOf Try.f14 2).size = [0, 1] := by kernel_rfl
theorem R14_3_l : List.range (regOf Try.f14 3).size = [0, 1, 2, 3, 4, 5, 6] := by kernel_rfl
theorem R14_4_l : List.range (regOf Try.f14 4).size = [0, 1] := by kernel_rfl
theorem R14_5_l : List.range (regOf Try.f14 5).size = [0, 1] := by kernel_rfl
theorem R14_6_l : List.range (regOf Try.f14 6).size = [0, 1, 2, 3, 4, 5, 6, 7] := by kernel_rfl
theorem body14 : Try.f14.body = some (.seq (.region 0 (regOf Try.f14 0) false) (.seq (.seq (.region 1 (regOf Try.f14 1) false) (.cond (Operand.tmp 7) (.seq (.region 2 (regOf Try.f14 2) false) (.ret)) (.skip))) (.seq (.region 3 (regOf Try.f14 3) false) (.seq (.seq (.region 4 (regOf Try.f14 4) false) (.cond (Operand.tmp 14) (.seq (.region 5 (regOf Try.f14 5) false) (.ret)) (.skip))) (.seq (.region 6 (regOf Try.f14 6) false) (.ret)))))) := by kernel_rfl
theorem p14_0_0 : pj (regOf Try.f14 0) 0 = some (some 2, .assign (.const (.int .i64 0)), 3, none) := by kernel_rfl
theorem p14_0_1 : pj (regOf Try.f14 0) 1 = some (some 3, .assign (.const (.int .i64 0)), 30, none) := by kernel_rfl
theorem p14_1_0 : pj (regOf Try.f14 1) 0 = some (some 6, .move (.tmp 0), 24, none) := by kernel_rfl
theorem p14_1_1 : pj (regOf Try.f14 1) 1 = some (some 7, .binOp .eql 24 (.tmp 6) (.const (.pointer none)) 24, 4, none) := by kernel_rfl
theorem p14_3_0 : pj (regOf Try.f14 3) 0 = some (some 9, .move (.tmp 0), 24, none) := by kernel_rfl
theorem p14_3_1 : pj (regOf Try.f14 3) 1 = some (some 10, .call { callee := .value (.func 36), args := #[.tmp 9], argTypes := #[24] }, 74, none) := by kernel_rfl
theorem p14_3_2 : pj (regOf Try.f14 3) 2 = some (some 8, .move (.tmp 10), 74, none) := by kernel_rfl
theorem p14_3_3 : pj (regOf Try.f14 3) 3 = some (some 11, .extract (.tmp 8) 0, 3, none) := by kernel_rfl
theorem p14_3_4 : pj (regOf Try.f14 3) 4 = some (some 12, .extract (.tmp 8) 1, 4, none) := by kernel_rfl
theorem p14_3_5 : pj (regOf Try.f14 3) 5 = some (some 4, .assign (.tmp 11), 3, none) := by kernel_rfl
theorem p14_3_6 : pj (regOf Try.f14 3) 6 = some (some 5, .assign (.tmp 12), 4, none) := by kernel_rfl
theorem p14_4_0 : pj (regOf Try.f14 4) 0 = some (some 13, .move (.tmp 5), 4, none) := by kernel_rfl
theorem p14_4_1 : pj (regOf Try.f14 4) 1 = some (some 14, .unOp .not 4 (.tmp 13), 4, none) := by kernel_rfl
theorem p14_5_0 : pj (regOf Try.f14 5) 0 = some (some 2, .assign (.const (.int .i64 0)), 3, none) := by kernel_rfl
theorem p14_5_1 : pj (regOf Try.f14 5) 1 = some (some 3, .assign (.const (.int .i64 8)), 30, none) := by kernel_rfl
set_option maxHeartbeats 4000000 in
theorem next_nil (g : Nat) (now : Int) (w : World) (hg : w.heap[g]? = some (.cells #[.int .i64 now, .map none] 29 (0, 0))) : Calls Try.prog 14 #[.pointer (some ⟨g, 0, none⟩)] w fun e w' => e = .returned (.tuple #[.int .i64 0, .int .i64 8]) ∧ Kp w w' (fun _ => False) := by
  have K_0 := Kp.refl w (fun _ => False)
  have B_g := hg
  refine enter (args := [Value.pointer (some ⟨g, 0, none⟩)]) (n := 21) Try.func14 body14 rfl rfl rfl ?_
  intro a hE
  refine c_reg R14_0_l ?_
  refine q0 p14_0_0 hE (st_assign rfl) ?_
  clear hE a; intro a hE
  refine q0 p14_0_1 hE (st_assign rfl) ?_
  clear hE a; intro a hE
  refine p_nil ?_
  refine x_norm ?_
  refine wp_seq ?_
  refine c_reg R14_1_l ?_
  refine q0 p14_1_0 hE (st_move rfl) ?_
  clear hE a; intro a hE
  refine q0 p14_1_1 hE (st_eqlP (b := false) tP24 rfl rfl rfl) ?_
  clear hE a; intro a hE
  refine p_nil ?_
  refine x_norm ?_
  refine c_cond (t := false) hE rfl ?_
  refine wp_skip ?_
  refine x_norm ?_
  refine c_reg R14_3_l ?_
  refine q0 p14_3_0 hE (st_move rfl) ?_
  clear hE a; intro a hE
  refine p_cons (s_call (xs := [Operand.tmp 9]) (args := [Value.pointer (some ⟨g, 0, none⟩)]) p14_3_1 hE wn_none rfl rfl Try.func36 cl36 (first_nil g now _ B_g) ?_)
  rintro e w1 ⟨rfl, hk⟩
  replace B_g := kp_blk B_g hk (fun h => h)
  replace K_0 := K_0.then_ hk (fun _ h => h.elim)
  refine ⟨_, rfl, ?_⟩
  clear hE a; intro a hE
  refine q0 p14_3_2 hE (st_move rfl) ?_
  clear hE a; intro a hE
  refine q0 p14_3_3 hE (st_extract rfl rfl) ?_
  clear hE a; intro a hE
  refine q0 p14_3_4 hE (st_extract rfl rfl) ?_
  clear hE a; intro a hE
  refine q0 p14_3_5 hE (st_assign rfl) ?_
  clear hE a; intro a hE
  refine q0 p14_3_6 hE (st_assign rfl) ?_
  clear hE a; intro a hE
  refine p_nil ?_
  refine x_norm ?_
  refine wp_seq ?_
  refine c_reg R14_4_l ?_
  refine q0 p14_4_0 hE (st_move rfl) ?_
  clear hE a; intro a hE
  refine q0 p14_4_1 hE (st_not rfl rfl) ?_
  clear hE a; intro a hE
  refine p_nil ?_
  refine x_norm ?_
  refine c_cond (t := true) hE rfl ?_
  refine c_reg R14_5_l ?_
  refine q0 p14_5_0 hE (st_assign rfl) ?_
  clear hE a; intro a hE
  refine q0 p14_5_1 hE (st_assign rfl) ?_
  clear hE a; intro a hE
  refine p_nil ?_
  refine x_norm ?_
  refine wp_ret ?_
  refine x_ret ?_
  refine ret_list (rs := [.tmp 2, .tmp 3]) (vs := [Value.int .i64 0, Value.int .i64 8]) rfl hE (.tmp rfl (.tmp rfl .nil)) rfl ?_
  exact ⟨rfl, K_0⟩
theorem R16_0_l : List.range (regOf Try.f16 0).size = [0] := by kernel_rfl
theorem R16_1_l : List.range (regOf Try.f16 1).size = [0, 1] := by kernel_rfl
theorem R16_2_l : List.range (regOf Try.f16 2).size = [0] := by kernel_rfl
theorem R16_3_l : List.range (regOf Try.f16 3).size = [0, 1, 2, 3, 4, 5] := by kernel_rfl
theorem body16 : Try.f16.body = some (.seq (.region 0 (regOf Try.f16 0) false) (.seq (.seq (.region 1 (regOf Try.f16 1) false) (.cond (Operand.tmp 4) (.seq (.region 2 (regOf Try.f16 2) false) (.ret)) (.skip))) (.seq (.region 3 (regOf Try.f16 3) false) (.ret)))) := by kernel_rfl
theorem p16_0_0 : pj (regOf Try.f16 0) 0 = some (some 2, .assign (.const (.int .i64 0)), 3, none) := by kernel_rfl
theorem p16_1_0 : pj (regOf Try.f16 1) 0 = some (some 3, .move (.tmp 0), 24, none) := by kernel_rfl
theorem p16_1_1 : pj (regOf Try.f16 1) 1 = some (some 4, .binOp .eql 24 (.tmp 3) (.const (.pointer none)) 24, 4, none) := by kernel_rfl
theorem p16_3_0 : pj (regOf Try.f16 3) 0 = some (some 5, .move (.tmp 0), 24, none) := by kernel_rfl
theorem p16_3_1 : pj (regOf Try.f16 3) 1 = some (some 6, .nilCheck (.tmp 5), 0, none) := by kernel_rfl
theorem p16_3_2 : pj (regOf Try.f16 3) 2 = some (some 7, .fieldAddr 29 (.tmp 6) 1, 0, none) := by kernel_rfl
theorem p16_3_3 : pj (regOf Try.f16 3) 3 = some (some 8, .load 27 (.tmp 7), 27, none) := by kernel_rfl
theorem p16_3_4 : pj (regOf Try.f16 3) 4 = some (some 9, .call { callee := .builtin .len, args := #[.tmp 8], argTypes := #[27] }, 3, none) := by kernel_rfl
theorem p16_3_5 : pj (regOf Try.f16 3) 5 = some (some 2, .assign (.tmp 9), 3, none) := by kernel_rfl
set_option maxHeartbeats 4000000 in
theorem len_nil (g : Nat) (now : Int) (w : World) (hg : w.heap[g]? = some (.cells #[.int .i64 now, .map none] 29 (0, 0))) : Calls Try.prog 16 #[.pointer (some ⟨g, 0, none⟩)] w fun e w' => e = .returned (.int .i64 0) ∧ Kp w w' (fun _ => False) := by
  have K_0 := Kp.refl w (fun _ => False)
  have B_g := hg
  refine enter (args := [Value.pointer (some ⟨g, 0, none⟩)]) (n := 10) Try.func16 body16 rfl rfl rfl ?_
  intro a hE
  refine c_reg R16_0_l ?_
  refine q0 p16_0_0 hE (st_assign rfl) ?_
  clear hE a; intro a hE
  refine p_nil ?_
  refine x_norm ?_
  refine wp_seq ?_
  refine c_reg R16_1_l ?_
  refine q0 p16_1_0 hE (st_move rfl) ?_
  clear hE a; intro a hE
  refine q0 p16_1_1 hE (st_eqlP (b := false) tP24 rfl rfl rfl) ?_
  clear hE a; intro a hE
  refine p_nil ?_
  refine x_norm ?_
  refine c_cond (t := false) hE rfl ?_
  refine wp_skip ?_
  refine x_norm ?_
  refine c_reg R16_3_l ?_
  refine q0 p16_3_0 hE (st_move rfl) ?_
  clear hE a; intro a hE
  refine q0 p16_3_1 hE (st_nil rfl) ?_
  clear hE a; intro a hE
  refine q0 p16_3_2 hE (st_fieldAddr Try.underlying29 rfl tS27 rfl rfl) ?_
  clear hE a; intro a hE
  refine q0 p16_3_3 hE (st_load1 tA27 rfl ((blk_cell B_g 1).trans rfl)) ?_
  clear hE a; intro a hE
  refine q0 p16_3_4 hE (Mi.st_lenMN Try.underlying27 rfl) ?_
  clear hE a; intro a hE
  refine q0 p16_3_5 hE (st_assign rfl) ?_
  clear hE a; intro a hE
  refine p_nil ?_
  refine x_norm ?_
  refine wp_ret ?_
  refine ret_one (v := Value.int .i64 0) rfl hE (.tmp rfl .nil) ?_
  exact ⟨rfl, K_0⟩
theorem R12_0_l : List.range (regOf Try.f12 0).size = [0] := by kernel_rfl
theorem R12_1_l : List.range (regOf Try.f12 1).size = [0, 1] := by kernel_rfl
theorem R12_2_l : List.range (regOf Try.f12 2).size = [0] := by kernel_rfl
theorem R12_3_l : List.range (regOf Try.f12 3).size = [0, 1, 2, 3, 4, 5, 6, 7, 8, 9, 10, 11] := by kernel_rfl
theorem body12 : Try.f12.body = some (.seq (.region 0 (regOf Try.f12 0) false) (.seq (.seq (.region 1 (regOf Try.f12 1) false) (.cond (Operand.tmp 4) (.seq (.region 2 (regOf Try.f12 2) false) (.ret)) (.skip))) (.seq (.region 3 (regOf Try.f12 3) true) (.ret)))) := by kernel_rfl
theorem p12_0_0 : pj (regOf Try.f12 0) 0 = some (some 2, .assign (.const (.pointer none)), 24, none) := by kernel_rfl
theorem p12_1_0 : pj (regOf Try.f12 1) 0 = some (some 3, .move (.tmp 0), 24, none) := by kernel_rfl
theorem p12_1_1 : pj (regOf Try.f12 1) 1 = some (some 4, .binOp .eql 24 (.tmp 3) (.const (.pointer none)) 24, 4, none) := by kernel_rfl
theorem ns12_3 : Region.noSelect (regOf Try.f12 3) = true := by kernel_rfl
theorem p12_3_0 : pj (regOf Try.f12 3) 0 = some (some 5, .move (.tmp 0), 24, none) := by kernel_rfl
theorem p12_3_1 : pj (regOf Try.f12 3) 1 = some (some 6, .nilCheck (.tmp 5), 0, none) := by kernel_rfl
theorem p12_3_2 : pj (regOf Try.f12 3) 2 = some (some 7, .fieldAddr 29 (.tmp 6) 0, 0, none) := by kernel_rfl
theorem p12_3_3 : pj (regOf Try.f12 3) 3 = some (some 8, .load 26 (.tmp 7), 26, none) := by kernel_rfl
theorem tA26 : (Try.prog.underlying 26).map aggD = some true := by kernel_rfl
theorem p12_3_4 : pj (regOf Try.f12 3) 4 = some (some 9, .move (.tmp 0), 24, none) := by kernel_rfl
theorem p12_3_5 : pj (regOf Try.f12 3) 5 = some (some 10, .nilCheck (.tmp 9), 0, none) := by kernel_rfl
theorem p12_3_6 : pj (regOf Try.f12 3) 6 = some (some 11, .fieldAddr 29 (.tmp 10) 1, 0, none) := by kernel_rfl
theorem p12_3_7 : pj (regOf Try.f12 3) 7 = some (some 12, .load 27 (.tmp 11), 27, none) := by kernel_rfl
theorem p12_3_8 : pj (regOf Try.f12 3) 8 = some (some 13, .call { callee := .value (.func 35), args := #[.tmp 12], argTypes := #[27] }, 27, none) := by kernel_rfl
theorem cl35 : callable Try.f35 = true := by kernel_rfl
theorem p12_3_9 : pj (regOf Try.f12 3) 9 = some (some 14, .build 29 #[(0, .tmp 8), (1, .tmp 13)], 29, none) := by kernel_rfl
theorem p12_3_10 : pj (regOf Try.f12 3) 10 = some (some 15, .box 29 (.tmp 14), 24, none) := by kernel_rfl
theorem p12_3_11 : pj (regOf Try.f12 3) 11 = some (some 2, .assign (.tmp 15), 24, none) := by kernel_rfl
set_option maxHeartbeats 4000000 in
theorem copy_nil (g : Nat) (now : Int) (w : World) (hg : w.heap[g]? = some (.cells #[.int .i64 now, .map none] 29 (0, 0))) : Calls Try.prog 12 #[.pointer (some ⟨g, 0, none⟩)] w fun e w' => ∃ b, e = .returned (.pointer (some ⟨b, 0, none⟩)) ∧ w.heap.size ≤ b ∧ w'.heap[b]? = some (.cells #[.int .i64 now, .map none] 29 (0, 0)) ∧ Kp w w' (fun _ => False) := by
  have K_0 := Kp.refl w (fun _ => False)
  have B_g := hg
  refine enter (args := [Value.pointer (some ⟨g, 0, none⟩)]) (n := 16) Try.func12 body12 rfl rfl rfl ?_
  intro a hE
  refine c_reg R12_0_l ?_
  refine q0 p12_0_0 hE (st_assign rfl) ?_
  clear hE a; intro a hE
  refine p_nil ?_
  refine x_norm ?_
  refine wp_seq ?_
  refine c_reg R12_1_l ?_
  refine q0 p12_1_0 hE (st_move rfl) ?_
  clear hE a; intro a hE
  refine q0 p12_1_1 hE (st_eqlP (b := false) tP24 rfl rfl rfl) ?_
  clear hE a; intro a hE
  refine p_nil ?_
  refine x_norm ?_
  refine c_cond (t := false) hE rfl ?_
  refine wp_skip ?_
  refine x_norm ?_
  refine c_drawS (S := fun W => W.heap[g]? = some (.cells #[Value.int .i64 now, Value.map none] 29 (0, 0)) ∧ True) rfl rfl (listed := #[false, false, false, false, false, false, false, false, false, false, false, false]) rfl ?_
  intro w1 hh hk
  replace B_g := kp_blk B_g hk (fun h => h)
  replace K_0 := K_0.then_ hk (fun _ h => h.elim)
  clear hh hk
  refine d_take (v := Value.pointer (some ⟨g, 0, none⟩)) p12_3_0 ns12_3 (by kernel_rfl) (by kernel_rfl) (fun _ _ _ h => h) hE wn_none rfl ⟨B_g, trivial⟩ (fun W hS => (st_move rfl)) rfl ?_
  clear hE a; intro a hE
  refine d_take (v := Value.pointer (some ⟨g, 0, none⟩)) p12_3_1 ns12_3 (by kernel_rfl) (by kernel_rfl) (fun _ _ _ h => h) hE wn_none rfl ⟨B_g, trivial⟩ (fun W hS => (st_nil rfl)) rfl ?_
  clear hE a; intro a hE
  refine d_take (v := Value.pointer (some ⟨g, 0, none⟩)) p12_3_2 ns12_3 (by kernel_rfl) (by kernel_rfl) (fun _ _ _ h => h) hE wn_none rfl ⟨B_g, trivial⟩ (fun W hS => (st_fieldAddr Try.underlying29 rfl tS26 rfl rfl)) rfl ?_
  clear hE a; intro a hE
  refine d_take (v := Value.agg #[Value.int .i64 now]) p12_3_3 ns12_3 (by kernel_rfl) (by kernel_rfl) (fun _ _ _ h => h) hE wn_none rfl ⟨B_g, trivial⟩ (fun W hS => (st_loadN (off := 0) (k := 1) (vs := [Value.int .i64 now]) tA26 tS26 rfl hS.1 rfl rfl)) rfl ?_
  clear hE a; intro a hE
  refine d_take (v := Value.pointer (some ⟨g, 0, none⟩)) p12_3_4 ns12_3 (by kernel_rfl) (by kernel_rfl) (fun _ _ _ h => h) hE wn_none rfl ⟨B_g, trivial⟩ (fun W hS => (st_move rfl)) rfl ?_
  clear hE a; intro a hE
  refine d_take (v := Value.pointer (some ⟨g, 0, none⟩)) p12_3_5 ns12_3 (by kernel_rfl) (by kernel_rfl) (fun _ _ _ h => h) hE wn_none rfl ⟨B_g, trivial⟩ (fun W hS => (st_nil rfl)) rfl ?_
  clear hE a; intro a hE
  refine d_take (v := Value.pointer (some ⟨g, 1, none⟩)) p12_3_6 ns12_3 (by kernel_rfl) (by kernel_rfl) (fun _ _ _ h => h) hE wn_none rfl ⟨B_g, trivial⟩ (fun W hS => (st_fieldAddr Try.underlying29 rfl tS27 rfl rfl)) rfl ?_
  clear hE a; intro a hE
  refine d_take (v := Value.map none) p12_3_7 ns12_3 (by kernel_rfl) (by kernel_rfl) (fun _ _ _ h => h) hE wn_none rfl ⟨B_g, trivial⟩ (fun W hS => (st_load1 tA27 rfl ((blk_cell hS.1 1).trans rfl))) rfl ?_
  clear hE a; intro a hE
  refine d_one (by kernel_rfl) rfl (s_call (xs := [Operand.tmp 12]) (args := [Value.map none]) p12_3_8 hE wn_none rfl rfl Try.func35 cl35 (clone_nil _) ?_)
  rintro e w2 ⟨rfl, hk⟩
  replace B_g := kp_blk B_g hk (fun h => h)
  replace K_0 := K_0.then_ hk (fun _ h => h.elim)
  refine ⟨_, rfl, ?_⟩
  clear hE a; intro a hE
  refine ⟨⟨B_g, trivial⟩, ?_⟩
  refine d_take (v := Value.agg #[Value.int .i64 now, Value.map none]) p12_3_9 ns12_3 (by kernel_rfl) (by kernel_rfl) (fun _ _ _ h => h) hE wn_none rfl ⟨B_g, trivial⟩ (fun W hS => (st_build (xs := [(0, Operand.tmp 8), (1, Operand.tmp 13)]) (vs := [(0, Value.agg #[Value.int .i64 now]), (1, Value.map none)]) (cs := #[Value.int .i64 now, Value.map none]) rfl (by kernel_rfl))) rfl ?_
  clear hE a; intro a hE
  refine d_one (by kernel_rfl) rfl (s_box p12_3_10 hE wn_none rfl rfl ?_)
  clear hE a; intro g3 w4 z5 B_g3 hk a hE
  replace B_g3 : w4.heap[g3]? = some (.cells #[Value.int .i64 now, Value.map none] 29 (0, 0)) := B_g3
  have n_g_g3 : g ≠ g3 := ne_new B_g z5
  have z_0_g3 := Nat.le_trans K_0.kept.1 z5
  replace B_g := kp_blk B_g hk (fun h => h)
  replace K_0 := K_0.then_ hk (fun _ h => h.elim)
  clear hk
  refine ⟨⟨B_g, trivial⟩, ?_⟩
  refine d_take (v := Value.pointer (some ⟨g3, 0, none⟩)) p12_3_11 ns12_3 (by kernel_rfl) (by kernel_rfl) (fun _ _ _ h => h) hE wn_none rfl ⟨B_g, trivial⟩ (fun W hS => (st_assign rfl)) rfl ?_
  clear hE a; intro a hE
  refine d_end (by kernel_rfl) ?_
  refine x_norm ?_
  refine wp_ret ?_
  refine ret_one (v := Value.pointer (some ⟨g3, 0, none⟩)) rfl hE (.tmp rfl .nil) ?_
  exact ⟨g3, rfl, z_0_g3, B_g3, K_0⟩
theorem R4_7_l : List.range (regOf Try.f4 7).size = [0, 1, 2] := by kernel_rfl
theorem R4_8_l : List.range (regOf Try.f4 8).size = [0, 1] := by kernel_rfl
theorem R4_9_l : List.range (regOf Try.f4 9).size = [0] := by kernel_rfl
theorem R4_10_l : List.range (regOf Try.f4 10).size = [0, 1, 2, 3, 4, 5, 6, 7] := by kernel_rfl
theorem R4_11_l : List.range (regOf Try.f4 11).size = [0] := by kernel_rfl
theorem R4_12_l : List.range (regOf Try.f4 12).size = [0] := by kernel_rfl
theorem R4_13_l : List.range (regOf Try.f4 13).size = [0, 1, 2] := by kernel_rfl
theorem R4_15_l : List.range (regOf Try.f4 15).size = [0, 1, 2, 3, 4] := by kernel_rfl
theorem R4_14_l : List.range (regOf Try.f4 14).size = [0, 1, 2] := by kernel_rfl
theorem R4_16_l : List.range (regOf Try.f4 16).size = [0, 1, 2, 3, 4, 5, 6] := by kernel_rfl
theorem R4_17_l : List.range (regOf Try.f4 17).size = [0, 1, 2, 3, 4, 5, 6] := by kernel_rfl
theorem R4_18_l : List.range (regOf Try.f4 18).size = [0, 1, 2, 3, 4, 5, 6, 7, 8, 9, 10, 11, 12, 13, 14, 15, 16, 17, 18, 19, 20, 21, 22, 23, 24, 25, 26, 27, 28, 29, 30, 31, 32, 33, 34] := by kernel_rfl
theorem p4_7_0 : pj (regOf Try.f4 7) 0 = some (some 44, .move (.tmp 5), 24, none) := by kernel_rfl
theorem p4_7_1 : pj (regOf Try.f4 7) 1 = some (some 45, .call { callee := .value (.func 12), args := #[.tmp 44], argTypes := #[24] }, 24, none) := by kernel_rfl
theorem cl12 : callable Try.f12 = true := by kernel_rfl
theorem p4_7_2 : pj (regOf Try.f4 7) 2 = some (some 7, .assign (.tmp 45), 24, none) := by kernel_rfl
theorem p4_8_0 : pj (regOf Try.f4 8) 0 = some (some 46, .move (.tmp 7), 24, none) := by kernel_rfl
theorem p4_8_1 : pj (regOf Try.f4 8) 1 = some (some 47, .binOp .eql 24 (.tmp 46) (.const (.pointer none)) 24, 4, none) := by kernel_rfl
theorem p4_10_0 : pj (regOf Try.f4 10) 0 = some (some 49, .move (.tmp 5), 24, none) := by kernel_rfl
theorem p4_10_1 : pj (regOf Try.f4 10) 1 = some (some 50, .move (.tmp 1), 3, none) := by kernel_rfl
theorem p4_10_2 : pj (regOf Try.f4 10) 2 = some (some 51, .call { callee := .value (.func 13), args := #[.tmp 49, .tmp 50], argTypes := #[24, 3] }, 40, none) := by kernel_rfl
theorem cl13 : callable Try.f13 = true := by kernel_rfl
theorem p4_10_3 : pj (regOf Try.f4 10) 3 = some (some 48, .move (.tmp 51), 40, none) := by kernel_rfl
theorem p4_10_4 : pj (regOf Try.f4 10) 4 = some (some 52, .extract (.tmp 48) 0, 35, none) := by kernel_rfl
theorem p4_10_5 : pj (regOf Try.f4 10) 5 = some (some 53, .extract (.tmp 48) 1, 30, none) := by kernel_rfl
theorem p4_10_6 : pj (regOf Try.f4 10) 6 = some (some 8, .assign (.tmp 52), 35, none) := by kernel_rfl
theorem p4_10_7 : pj (regOf Try.f4 10) 7 = some (some 9, .assign (.tmp 53), 30, none) := by kernel_rfl
theorem p4_11_0 : pj (regOf Try.f4 11) 0 = some (some 10, .assign (.const (.slice none 0 0)), 35, none) := by kernel_rfl
theorem p4_12_0 : pj (regOf Try.f4 12) 0 = some (some 11, .assign (.const (.int .i64 0)), 3, none) := by kernel_rfl
theorem p4_13_0 : pj (regOf Try.f4 13) 0 = some (some 54, .move (.tmp 11), 3, none) := by kernel_rfl
theorem p4_13_1 : pj (regOf Try.f4 13) 1 = some (some 55, .move (.tmp 1), 3, none) := by kernel_rfl
theorem p4_13_2 : pj (regOf Try.f4 13) 2 = some (some 56, .binOp .lss 3 (.tmp 54) (.tmp 55) 3, 4, none) := by kernel_rfl
theorem p4_15_0 : pj (regOf Try.f4 15) 0 = some (some 59, .move (.tmp 10), 35, none) := by kernel_rfl
theorem p4_15_1 : pj (regOf Try.f4 15) 1 = some (some 60, .move (.tmp 7), 24, none) := by kernel_rfl
theorem p4_15_2 : pj (regOf Try.f4 15) 2 = some (some 61, .call { callee := .value (.func 10), args := #[.tmp 60], argTypes := #[24] }, 35, none) := by kernel_rfl
theorem cl10 : callable Try.f10 = true := by kernel_rfl
theorem p4_15_3 : pj (regOf Try.f4 15) 3 = some (some 62, .call { callee := .builtin .append, args := #[.tmp 59, .tmp 61], argTypes := #[35, 35] }, 35, none) := by kernel_rfl
theorem eD3 : elemD Try.prog 3 = some (1, 1, 8) := by kernel_rfl
theorem p4_15_4 : pj (regOf Try.f4 15) 4 = some (some 10, .assign (.tmp 62), 35, none) := by kernel_rfl
theorem p4_14_0 : pj (regOf Try.f4 14) 0 = some (some 57, .move (.tmp 11), 3, none) := by kernel_rfl
theorem p4_14_1 : pj (regOf Try.f4 14) 1 = some (some 58, .binOp .add 3 (.tmp 57) (.const (.int .i64 1)) 3, 3, none) := by kernel_rfl
theorem p4_14_2 : pj (regOf Try.f4 14) 2 = some (some 11, .assign (.tmp 58), 3, none) := by kernel_rfl
theorem p4_16_0 : pj (regOf Try.f4 16) 0 = some (some 64, .move (.tmp 5), 24, none) := by kernel_rfl
theorem p4_16_1 : pj (regOf Try.f4 16) 1 = some (some 65, .call { callee := .value (.func 14), args := #[.tmp 64], argTypes := #[24] }, 42, none) := by kernel_rfl
theorem cl14 : callable Try.f14 = true := by kernel_rfl
theorem p4_16_2 : pj (regOf Try.f4 16) 2 = some (some 63, .move (.tmp 65), 42, none) := by kernel_rfl
theorem p4_16_3 : pj (regOf Try.f4 16) 3 = some (some 66, .extract (.tmp 63) 0, 3, none) := by kernel_rfl
theorem p4_16_4 : pj (regOf Try.f4 16) 4 = some (some 67, .extract (.tmp 63) 1, 30, none) := by kernel_rfl
theorem p4_16_5 : pj (regOf Try.f4 16) 5 = some (some 12, .assign (.tmp 66), 3, none) := by kernel_rfl
theorem p4_16_6 : pj (regOf Try.f4 16) 6 = some (some 13, .assign (.tmp 67), 30, none) := by kernel_rfl
theorem p4_17_0 : pj (regOf Try.f4 17) 0 = some (some 69, .move (.tmp 7), 24, none) := by kernel_rfl
theorem p4_17_1 : pj (regOf Try.f4 17) 1 = some (some 70, .call { callee := .value (.func 14), args := #[.tmp 69], argTypes := #[24] }, 42, none) := by kernel_rfl
theorem p4_17_2 : pj (regOf Try.f4 17) 2 = some (some 68, .move (.tmp 70), 42, none) := by kernel_rfl
theorem p4_17_3 : pj (regOf Try.f4 17) 3 = some (some 71, .extract (.tmp 68) 0, 3, none) := by kernel_rfl
theorem p4_17_4 : pj (regOf Try.f4 17) 4 = some (some 72, .extract (.tmp 68) 1, 30, none) := by kernel_rfl
theorem p4_17_5 : pj (regOf Try.f4 17) 5 = some (some 14, .assign (.tmp 71), 3, none) := by kernel_rfl
theorem p4_17_6 : pj (regOf Try.f4 17) 6 = some (some 15, .assign (.tmp 72), 30, none) := by kernel_rfl
theorem p4_18_0 : pj (regOf Try.f4 18) 0 = some (some 73, .call { callee := .value (.func 11), args := #[], argTypes := #[] }, 4, none) := by kernel_rfl
theorem cl11 : callable Try.f11 = true := by kernel_rfl
theorem p4_18_1 : pj (regOf Try.f4 18) 1 = some (some 74, .move (.tmp 73), 4, none) := by kernel_rfl
theorem p4_18_2 : pj (regOf Try.f4 18) 2 = some (some 75, .move (.tmp 9), 30, some (1, true)) := by kernel_rfl
theorem g4_18_1 : dstOf (regOf Try.f4 18) 1 = some 74 := by kernel_rfl
theorem p4_18_3 : pj (regOf Try.f4 18) 3 = some (some 76, .binOp .eql 30 (.tmp 75) (.const (.int .i64 0)) 30, 4, some (1, true)) := by kernel_rfl
theorem p4_18_4 : pj (regOf Try.f4 18) 4 = some (some 77, .pick (.tmp 74) (.tmp 76) (.const (.bool false)), 4, none) := by kernel_rfl
theorem p4_18_5 : pj (regOf Try.f4 18) 5 = some (some 78, .move (.tmp 77), 4, none) := by kernel_rfl
theorem p4_18_6 : pj (regOf Try.f4 18) 6 = some (some 79, .move (.tmp 8), 35, some (5, true)) := by kernel_rfl
theorem g4_18_5 : dstOf (regOf Try.f4 18) 5 = some 78 := by kernel_rfl
theorem p4_18_7 : pj (regOf Try.f4 18) 7 = some (some 80, .move (.tmp 10), 35, some (5, true)) := by kernel_rfl
theorem p4_18_8 : pj (regOf Try.f4 18) 8 = some (some 81, .call { callee := .value (.func 15), args := #[.tmp 79, .tmp 80], argTypes := #[35, 35] }, 4, some (5, true)) := by kernel_rfl
theorem cl15 : callable Try.f15 = true := by kernel_rfl
theorem p4_18_9 : pj (regOf Try.f4 18) 9 = some (some 82, .pick (.tmp 78) (.tmp 81) (.const (.bool false)), 4, none) := by kernel_rfl
theorem p4_18_10 : pj (regOf Try.f4 18) 10 = some (some 83, .move (.tmp 82), 4, none) := by kernel_rfl
theorem p4_18_11 : pj (regOf Try.f4 18) 11 = some (some 84, .move (.tmp 5), 24, some (10, true)) := by kernel_rfl
theorem g4_18_10 : dstOf (regOf Try.f4 18) 10 = some 83 := by kernel_rfl
theorem p4_18_12 : pj (regOf Try.f4 18) 12 = some (some 85, .call { callee := .value (.func 16), args := #[.tmp 84], argTypes := #[24] }, 3, some (10, true)) := by kernel_rfl
theorem cl16 : callable Try.f16 = true := by kernel_rfl
theorem p4_18_13 : pj (regOf Try.f4 18) 13 = some (some 86, .move (.tmp 7), 24, some (10, true)) := by kernel_rfl
theorem p4_18_14 : pj (regOf Try.f4 18) 14 = some (some 87, .call { callee := .value (.func 16), args := #[.tmp 86], argTypes := #[24] }, 3, some (10, true)) := by kernel_rfl
theorem p4_18_15 : pj (regOf Try.f4 18) 15 = some (some 88, .binOp .eql 3 (.tmp 85) (.tmp 87) 3, 4, some (10, true)) := by kernel_rfl
theorem p4_18_16 : pj (regOf Try.f4 18) 16 = some (some 89, .pick (.tmp 83) (.tmp 88) (.const (.bool false)), 4, none) := by kernel_rfl
theorem p4_18_17 : pj (regOf Try.f4 18) 17 = some (some 90, .move (.tmp 89), 4, none) := by kernel_rfl
theorem p4_18_18 : pj (regOf Try.f4 18) 18 = some (some 91, .move (.tmp 5), 24, some (17, true)) := by kernel_rfl
theorem g4_18_17 : dstOf (regOf Try.f4 18) 17 = some 90 := by kernel_rfl
theorem p4_18_19 : pj (regOf Try.f4 18) 19 = some (some 92, .call { callee := .value (.func 17), args := #[.tmp 91], argTypes := #[24] }, 3, some (17, true)) := by kernel_rfl
theorem cl17 : callable Try.f17 = true := by kernel_rfl
theorem p4_18_20 : pj (regOf Try.f4 18) 20 = some (some 93, .move (.tmp 7), 24, some (17, true)) := by kernel_rfl
theorem p4_18_21 : pj (regOf Try.f4 18) 21 = some (some 94, .call { callee := .value (.func 17), args := #[.tmp 93], argTypes := #[24] }, 3, some (17, true)) := by kernel_rfl
theorem p4_18_22 : pj (regOf Try.f4 18) 22 = some (some 95, .binOp .eql 3 (.tmp 92) (.tmp 94) 3, 4, some (17, true)) := by kernel_rfl
theorem p4_18_23 : pj (regOf Try.f4 18) 23 = some (some 96, .pick (.tmp 90) (.tmp 95) (.const (.bool false)), 4, none) := by kernel_rfl
theorem p4_18_24 : pj (regOf Try.f4 18) 24 = some (some 97, .move (.tmp 96), 4, none) := by kernel_rfl
theorem p4_18_25 : pj (regOf Try.f4 18) 25 = some (some 98, .move (.tmp 12), 3, some (24, true)) := by kernel_rfl
theorem g4_18_24 : dstOf (regOf Try.f4 18) 24 = some 97 := by kernel_rfl
theorem p4_18_26 : pj (regOf Try.f4 18) 26 = some (some 99, .move (.tmp 14), 3, some (24, true)) := by kernel_rfl
theorem p4_18_27 : pj (regOf Try.f4 18) 27 = some (some 100, .binOp .eql 3 (.tmp 98) (.tmp 99) 3, 4, some (24, true)) := by kernel_rfl
theorem p4_18_28 : pj (regOf Try.f4 18) 28 = some (some 101, .pick (.tmp 97) (.tmp 100) (.const (.bool false)), 4, none) := by kernel_rfl
theorem p4_18_29 : pj (regOf Try.f4 18) 29 = some (some 102, .move (.tmp 101), 4, none) := by kernel_rfl
theorem p4_18_30 : pj (regOf Try.f4 18) 30 = some (some 103, .move (.tmp 13), 30, some (29, true)) := by kernel_rfl
theorem g4_18_29 : dstOf (regOf Try.f4 18) 29 = some 102 := by kernel_rfl
theorem p4_18_31 : pj (regOf Try.f4 18) 31 = some (some 104, .move (.tmp 15), 30, some (29, true)) := by kernel_rfl
theorem p4_18_32 : pj (regOf Try.f4 18) 32 = some (some 105, .binOp .eql 30 (.tmp 103) (.tmp 104) 30, 4, some (29, true)) := by kernel_rfl
theorem p4_18_33 : pj (regOf Try.f4 18) 33 = some (some 106, .pick (.tmp 102) (.tmp 105) (.const (.bool false)), 4, none) := by kernel_rfl
theorem p4_18_34 : pj (regOf Try.f4 18) 34 = some (some 4, .assign (.tmp 106), 4, none) := by kernel_rfl
set_option maxHeartbeats 4000000 in
theorem runs7 {R : Ending → World → Prop} (w W : World) (gW : Nat) (mb : Option Nat) (l9 : LW) (B_gW : W.heap[gW]? = some (.cells #[.int .i64 0, .map mb] 29 (0, 0))) (hM : ((mb = none ∧ l9 = []) ∨ ∃ gm es ck, mb = some gm ∧ W.heap[gm]? = some (.map es ck) ∧ MapI (Value.int .i64) es ck l9 ∧ gW ≠ gm ∧ w.heap.size ≤ gm)) (hfo : FrontOk l9 100) (z_0_gW : w.heap.size ≤ gW) (K_0 : Kp w W (fun _ => False)) (nn : Nat) (hnn : nn ≤ 200) (hmn : (if 2305843009213693952 - 0 < (nn : Int) then 2305843009213693952 - 0 else (nn : Int)) = (nn : Int)) (hnI : 0 ≤ (nn : Int) ∧ (nn : Int) ≤ 1099511627776) (hn0 : (0 : Int) ≤ 0 ∧ (0 : Int) ≤ 2305843009213693952) (hR : ∀ W', Kp w W' (fun _ => False) → R (.returned (.bool true)) W') (a : Act) (hE : En 107 a [(1, Value.int .i64 (nn : Int)), (5, Value.pointer (some ⟨gW, 0, none⟩))]) : Code.wp Try.prog (.seq (.region 7 (regOf Try.f4 7) false) (.seq (.seq (.region 8 (regOf Try.f4 8) false) (.cond (Operand.tmp 47) (.seq (.region 9 (regOf Try.f4 9) false) (.ret)) (.skip))) (.seq (.region 10 (regOf Try.f4 10) false) (.seq (.region 11 (regOf Try.f4 11) false) (.seq (.seq (.region 12 (regOf Try.f4 12) false) (.block 2 (.loop (.seq (.seq (.region 13 (regOf Try.f4 13) false) (.cond (Operand.tmp 56) (.skip) (.exit 2))) (.seq (.block 3 (.region 15 (regOf Try.f4 15) false)) (.region 14 (regOf Try.f4 14) false)))))) (.seq (.region 16 (regOf Try.f4 16) false) (.seq (.region 17 (regOf Try.f4 17) false) (.seq (.region 18 (regOf Try.f4 18) false) (.ret))))))))) (bodyPost Try.prog Try.f4 R) a W := by
  rcases Decidable.em (mb = none) with hNIL | hNIL
  ·
    subst hNIL
    obtain rfl : l9 = [] := by rcases hM with ⟨_, h⟩ | ⟨gm, es, ck, h, _⟩; exact h; cases h
    refine c_reg R4_7_l ?_
    refine q0 p4_7_0 hE (st_move rfl) ?_
    clear hE a; intro a hE
    refine p_cons (s_call (xs := [Operand.tmp 44]) (args := [Value.pointer (some ⟨gW, 0, none⟩)]) p4_7_1 hE wn_none rfl rfl Try.func12 cl12 (copy_nil gW 0 _ B_gW) ?_)
    rintro e w1 ⟨gC, rfl, zC9, B_gC, hk⟩
    have n_gW_gC : gW ≠ gC := ne_new B_gW zC9
    have z_0_gC := Nat.le_trans K_0.kept.1 zC9
    replace B_gW := kp_blk B_gW hk (fun h => h)
    replace K_0 := K_0.then_ hk (fun _ h => h.elim)
    refine ⟨_, rfl, ?_⟩
    clear hE a; intro a hE
    refine q0 p4_7_2 hE (st_assign rfl) ?_
    clear hE a; intro a hE
    refine p_nil ?_
    refine x_norm ?_
    refine wp_seq ?_
    refine c_reg R4_8_l ?_
    refine q0 p4_8_0 hE (st_move rfl) ?_
    clear hE a; intro a hE
    refine q0 p4_8_1 hE (st_eqlP (b := false) tP24 rfl rfl rfl) ?_
    clear hE a; intro a hE
    refine p_nil ?_
    refine x_norm ?_
    refine c_cond (t := false) hE rfl ?_
    refine wp_skip ?_
    refine x_norm ?_
    refine c_reg R4_10_l ?_
    refine q0 p4_10_0 hE (st_move rfl) ?_
    clear hE a; intro a hE
    refine q0 p4_10_1 hE (st_move rfl) ?_
    clear hE a; intro a hE
    refine p_cons (s_call (xs := [Operand.tmp 49, Operand.tmp 50]) (args := [Value.pointer (some ⟨gW, 0, none⟩), Value.int .i64 (nn : Int)]) p4_10_2 hE wn_none rfl rfl Try.func13 cl13 (run_nil gW 0 (nn : Int) (nn : Int) _ hmn hnI hn0 B_gW) ?_)
    rintro e w2 ⟨rfl, B_gW', hk⟩
    replace B_gC := kp_blk B_gC hk (Ne.symm n_gW_gC)
    replace K_0 := K_0.then_ hk (fun k h => by rw [show k = gW from h]; exact Or.inr z_0_gW)
    replace B_gW := B_gW'
    refine ⟨_, rfl, ?_⟩
    clear hE a; intro a hE
    refine q0 p4_10_3 hE (st_move rfl) ?_
    clear hE a; intro a hE
    refine q0 p4_10_4 hE (st_extract rfl rfl) ?_
    clear hE a; intro a hE
    refine q0 p4_10_5 hE (st_extract rfl rfl) ?_
    clear hE a; intro a hE
    refine q0 p4_10_6 hE (st_assign rfl) ?_
    clear hE a; intro a hE
    refine q0 p4_10_7 hE (st_assign rfl) ?_
    clear hE a; intro a hE
    refine p_nil ?_
    refine x_norm ?_
    refine c_reg R4_11_l ?_
    refine q0 p4_11_0 hE (st_assign rfl) ?_
    clear hE a; intro a hE
    refine p_nil ?_
    refine x_norm ?_
    refine wp_seq ?_
    refine c_reg R4_12_l ?_
    refine q0 p4_12_0 hE (st_assign rfl) ?_
    clear hE a; intro a hE
    refine p_nil ?_
    refine x_norm ?_
    refine wp_block ?_
    have O_b := own_none w2 w.heap.size 3 1
    have Nb_b_gW : ¬ OB none gW := ob_nil
    have Nb_b_gC : ¬ OB none gC := ob_nil
    have Z_0_b : ∀ k, OB none k → (fun _ => False) k ∨ w.heap.size ≤ k := fun k h => absurd h ob_nil
    refine c_loop (α := Nat) (fun u a W => ∃ (A_b : Option Addr) (c_b : Nat) (n_b : Nat), En 107 a [(1, Value.int .i64 (nn : Int)), (5, Value.pointer (some ⟨gW, 0, none⟩)), (7, Value.pointer (some ⟨gC, 0, none⟩)), (47, Value.bool false), (8, Value.slice none 0 0), (9, Value.int .i64 0), (11, Value.int .i64 (u : Int)), (10, Value.slice A_b n_b c_b)] ∧ u ≤ nn ∧ W.heap[gW]? = some (.cells #[Value.int .i64 (0 + (nn : Int)), Value.map none] 29 (0, 0)) ∧ W.heap[gC]? = some (.cells #[Value.int .i64 (u : Int), Value.map none] 29 (0, 0)) ∧ n_b = ([] : List Int).length ∧ W.ownsRow w.heap.size 3 1 (.slice A_b n_b c_b) n_b (encs (Value.int .i64) ([] : List Int)) ∧ ¬ OB A_b gW ∧ ¬ OB A_b gC ∧ (∀ k, OB A_b k → (fun _ => False) k ∨ w.heap.size ≤ k) ∧ Kp w W (fun _ => False)) (fun u => nn - u) (0) ?_ ?_
    ·
      exact ⟨none, 0, 0, En.sub hE ⟨rfl, rfl, rfl, rfl, rfl, rfl, rfl, rfl, trivial⟩, Nat.zero_le _, B_gW, B_gC, rfl, O_b, Nb_b_gW, Nb_b_gC, Z_0_b, K_0⟩
    ·
      clear hE a
      rintro u a w3 ⟨A_b, c_b, n_b, hE, hu9, B_gW, B_gC, hn_b, O_b, Nb_b_gW, Nb_b_gC, Z_0_b, K_0⟩
      refine wp_seq ?_
      have hb0 : n_b = 0 := hn_b
      rcases Decidable.em ((u : Int) < (nn : Int)) with hK1 | hK1
      ·
        refine c_reg R4_13_l ?_
        refine q0 p4_13_0 hE (st_move rfl) ?_
        clear hE a; intro a hE
        refine q0 p4_13_1 hE (st_move rfl) ?_
        clear hE a; intro a hE
        refine q0 p4_13_2 hE (st_lss (b := true) rfl rfl (decide_eq_true hK1)) ?_
        clear hE a; intro a hE
        refine p_nil ?_
        refine x_norm ?_
        refine c_cond (t := true) hE rfl ?_
        refine wp_skip ?_
        refine x_norm ?_
        refine wp_seq ?_
        refine wp_block ?_
        refine c_regL R4_15_l ?_
        refine q0 p4_15_0 hE (st_move rfl) ?_
        clear hE a; intro a hE
        refine q0 p4_15_1 hE (st_move rfl) ?_
        clear hE a; intro a hE
        refine p_cons (s_call (xs := [Operand.tmp 60]) (args := [Value.pointer (some ⟨gC, 0, none⟩)]) p4_15_2 hE wn_none rfl rfl Try.func10 cl10 (tick_nil gC (u : Int) _ ⟨by omega, by omega⟩ B_gC) ?_)
        rintro e w4 ⟨rfl, B_gC', hk⟩
        replace B_gW := kp_blk B_gW hk n_gW_gC
        replace O_b := own_keep O_b hk (fun k hk2 h2 => Nb_b_gC (by rw [show k = gC from h2] at hk2; exact hk2))
        replace K_0 := K_0.then_ hk (fun k h => by rw [show k = gC from h]; exact Or.inr z_0_gC)
        replace B_gC := B_gC'
        refine ⟨_, rfl, ?_⟩
        clear hE a; intro a hE
        refine p_cons (s_appendC (xs := ([] : List Int)) (ys := []) p4_15_3 hE wn_none rfl Try.underlying35 eD3 rfl O_b rfl (Kd.C_nil _ _) (by omega) (by omega) K_0.kept.1 ?_)
        clear hE a; intro Ab5 cb6 w7 O_b' hk hat a hE
        have Nb_b_gW' := grow_n Nb_b_gW (blk_lt B_gW) hat
        have Nb_b_gC' := grow_n Nb_b_gC (blk_lt B_gC) hat
        have Z_0_b' := grow_z Z_0_b K_0.kept.1 hat
        replace B_gW := kp_blk B_gW hk Nb_b_gW
        replace B_gC := kp_blk B_gC hk Nb_b_gC
        replace K_0 := K_0.then_ hk Z_0_b
        replace Nb_b_gW := Nb_b_gW'
        replace Nb_b_gC := Nb_b_gC'
        replace Z_0_b := Z_0_b'
        replace O_b : w7.ownsRow _ 3 1 (.slice Ab5 n_b cb6) n_b (encs (Value.int .i64) ([] : List Int)) := O_b'
        clear O_b' hk hat
        refine q0 p4_15_4 hE (st_assign rfl) ?_
        clear hE a; intro a hE
        refine p_nil ?_
        refine x_normB ?_
        refine x_norm ?_
        refine c_regL R4_14_l ?_
        refine q0 p4_14_0 hE (st_move rfl) ?_
        clear hE a; intro a hE
        refine q0 p4_14_1 hE (st_add (z := (u : Int) + 1) rfl rfl (wr_i64 _ (by omega) (by omega))) ?_
        clear hE a; intro a hE
        refine q0 p4_14_2 hE (st_assign rfl) ?_
        clear hE a; intro a hE
        refine p_nil ?_
        refine x_norm ?_
        have hln9 : n_b = ([] : List Int).length := hn_b
        exact ⟨u + 1, by omega, Ab5, cb6, n_b, En.sub hE ⟨rfl, rfl, rfl, rfl, rfl, rfl, rfl, rfl, trivial⟩, by omega, B_gW, B_gC, hln9, O_b, Nb_b_gW, Nb_b_gC, Z_0_b, K_0⟩
      ·
        refine c_reg R4_13_l ?_
        refine q0 p4_13_0 hE (st_move rfl) ?_
        clear hE a; intro a hE
        refine q0 p4_13_1 hE (st_move rfl) ?_
        clear hE a; intro a hE
        refine q0 p4_13_2 hE (st_lss (b := false) rfl rfl (decide_eq_false hK1)) ?_
        clear hE a; intro a hE
        refine p_nil ?_
        refine x_norm ?_
        refine c_cond (t := false) hE rfl ?_
        refine wp_exit ?_
        refine x_exit ?_
        refine x_exit ?_
        obtain rfl : u = nn := by omega
        obtain rfl : n_b = 0 := hn_b
        refine x_in ?_
        refine x_norm ?_
        refine c_reg R4_16_l ?_
        refine q0 p4_16_0 hE (st_move rfl) ?_
        clear hE a; intro a hE
        refine p_cons (s_call (xs := [Operand.tmp 64]) (args := [Value.pointer (some ⟨gW, 0, none⟩)]) p4_16_1 hE wn_none rfl rfl Try.func14 cl14 (next_nil gW (0 + (u : Int)) _ B_gW) ?_)
        rintro e w8 ⟨rfl, hk⟩
        replace B_gW := kp_blk B_gW hk (fun h => h)
        replace B_gC := kp_blk B_gC hk (fun h => h)
        replace O_b := own_keep O_b hk (fun _ _ h => h)
        replace K_0 := K_0.then_ hk (fun _ h => h.elim)
        refine ⟨_, rfl, ?_⟩
        clear hE a; intro a hE
        refine q0 p4_16_2 hE (st_move rfl) ?_
        clear hE a; intro a hE
        refine q0 p4_16_3 hE (st_extract rfl rfl) ?_
        clear hE a; intro a hE
        refine q0 p4_16_4 hE (st_extract rfl rfl) ?_
        clear hE a; intro a hE
        refine q0 p4_16_5 hE (st_assign rfl) ?_
        clear hE a; intro a hE
        refine q0 p4_16_6 hE (st_assign rfl) ?_
        clear hE a; intro a hE
        refine p_nil ?_
        refine x_norm ?_
        refine c_reg R4_17_l ?_
        refine q0 p4_17_0 hE (st_move rfl) ?_
        clear hE a; intro a hE
        refine p_cons (s_call (xs := [Operand.tmp 69]) (args := [Value.pointer (some ⟨gC, 0, none⟩)]) p4_17_1 hE wn_none rfl rfl Try.func14 cl14 (next_nil gC (u : Int) _ B_gC) ?_)
        rintro e w9 ⟨rfl, hk⟩
        replace B_gW := kp_blk B_gW hk (fun h => h)
        replace B_gC := kp_blk B_gC hk (fun h => h)
        replace O_b := own_keep O_b hk (fun _ _ h => h)
        replace K_0 := K_0.then_ hk (fun _ h => h.elim)
        refine ⟨_, rfl, ?_⟩
        clear hE a; intro a hE
        refine q0 p4_17_2 hE (st_move rfl) ?_
        clear hE a; intro a hE
        refine q0 p4_17_3 hE (st_extract rfl rfl) ?_
        clear hE a; intro a hE
        refine q0 p4_17_4 hE (st_extract rfl rfl) ?_
        clear hE a; intro a hE
        refine q0 p4_17_5 hE (st_assign rfl) ?_
        clear hE a; intro a hE
        refine q0 p4_17_6 hE (st_assign rfl) ?_
        clear hE a; intro a hE
        refine p_nil ?_
        refine x_norm ?_
        refine c_reg R4_18_l ?_
        refine p_cons (s_call (xs := []) (args := []) p4_18_0 hE wn_none rfl rfl Try.func11 cl11 (kn10  _) ?_)
        rintro e w10 ⟨rfl, hk⟩
        replace B_gW := kp_blk B_gW hk (fun h => h)
        replace B_gC := kp_blk B_gC hk (fun h => h)
        replace O_b := own_keep O_b hk (fun _ _ h => h)
        replace K_0 := K_0.then_ hk (fun _ h => h.elim)
        refine ⟨_, rfl, ?_⟩
        clear hE a; intro a hE
        refine q0 p4_18_1 hE (st_move rfl) ?_
        clear hE a; intro a hE
        refine p_cons (s_still p4_18_2 hE (wn_some g4_18_1 rfl rfl) rfl (st_move rfl) ?_)
        clear hE a; intro a hE
        refine p_cons (s_still p4_18_3 hE (wn_some g4_18_1 rfl rfl) rfl (st_eql (b := true) rfl rfl (by decide)) ?_)
        clear hE a; intro a hE
        refine q0 p4_18_4 hE (st_pick rfl rfl) ?_
        clear hE a; intro a hE
        refine q0 p4_18_5 hE (st_move rfl) ?_
        clear hE a; intro a hE
        refine p_cons (s_still p4_18_6 hE (wn_some g4_18_5 rfl rfl) rfl (st_move rfl) ?_)
        clear hE a; intro a hE
        refine p_cons (s_still p4_18_7 hE (wn_some g4_18_5 rfl rfl) rfl (st_move rfl) ?_)
        clear hE a; intro a hE
        refine p_cons (s_call (xs := [Operand.tmp 79, Operand.tmp 80]) (args := [Value.slice none 0 0, Value.slice A_b 0 c_b]) p4_18_8 hE (wn_some g4_18_5 rfl rfl) rfl rfl Try.func15 cl15 (same_i none A_b 0 c_b [] _ (by decide) (Kd.C_nil _ _) (own_told O_b)) ?_)
        rintro e w11 ⟨rfl, hk⟩
        replace B_gW := kp_blk B_gW hk (fun h => h)
        replace B_gC := kp_blk B_gC hk (fun h => h)
        replace O_b := own_keep O_b hk (fun _ _ h => h)
        replace K_0 := K_0.then_ hk (fun _ h => h.elim)
        refine ⟨_, rfl, ?_⟩
        clear hE a; intro a hE
        refine q0 p4_18_9 hE (st_pick rfl rfl) ?_
        clear hE a; intro a hE
        refine q0 p4_18_10 hE (st_move rfl) ?_
        clear hE a; intro a hE
        refine p_cons (s_still p4_18_11 hE (wn_some g4_18_10 rfl rfl) rfl (st_move rfl) ?_)
        clear hE a; intro a hE
        refine p_cons (s_call (xs := [Operand.tmp 84]) (args := [Value.pointer (some ⟨gW, 0, none⟩)]) p4_18_12 hE (wn_some g4_18_10 rfl rfl) rfl rfl Try.func16 cl16 (len_nil gW (0 + (u : Int)) _ B_gW) ?_)
        rintro e w12 ⟨rfl, hk⟩
        replace B_gW := kp_blk B_gW hk (fun h => h)
        replace B_gC := kp_blk B_gC hk (fun h => h)
        replace O_b := own_keep O_b hk (fun _ _ h => h)
        replace K_0 := K_0.then_ hk (fun _ h => h.elim)
        refine ⟨_, rfl, ?_⟩
        clear hE a; intro a hE
        refine p_cons (s_still p4_18_13 hE (wn_some g4_18_10 rfl rfl) rfl (st_move rfl) ?_)
        clear hE a; intro a hE
        refine p_cons (s_call (xs := [Operand.tmp 86]) (args := [Value.pointer (some ⟨gC, 0, none⟩)]) p4_18_14 hE (wn_some g4_18_10 rfl rfl) rfl rfl Try.func16 cl16 (len_nil gC (u : Int) _ B_gC) ?_)
        rintro e w13 ⟨rfl, hk⟩
        replace B_gW := kp_blk B_gW hk (fun h => h)
        replace B_gC := kp_blk B_gC hk (fun h => h)
        replace O_b := own_keep O_b hk (fun _ _ h => h)
        replace K_0 := K_0.then_ hk (fun _ h => h.elim)
        refine ⟨_, rfl, ?_⟩
        clear hE a; intro a hE
        refine p_cons (s_still p4_18_15 hE (wn_some g4_18_10 rfl rfl) rfl (st_eql (b := true) rfl rfl (by decide)) ?_)
        clear hE a; intro a hE
        refine q0 p4_18_16 hE (st_pick rfl rfl) ?_
        clear hE a; intro a hE
        refine q0 p4_18_17 hE (st_move rfl) ?_
        clear hE a; intro a hE
        refine p_cons (s_still p4_18_18 hE (wn_some g4_18_17 rfl rfl) rfl (st_move rfl) ?_)
        clear hE a; intro a hE
        refine p_cons (s_call (xs := [Operand.tmp 91]) (args := [Value.pointer (some ⟨gW, 0, none⟩)]) p4_18_19 hE (wn_some g4_18_17 rfl rfl) rfl rfl Try.func17 cl17 (now_any gW (0 + (u : Int)) (Value.map none) _ B_gW) ?_)
        rintro e w14 ⟨rfl, hk⟩
        replace B_gW := kp_blk B_gW hk (fun h => h)
        replace B_gC := kp_blk B_gC hk (fun h => h)
        replace O_b := own_keep O_b hk (fun _ _ h => h)
        replace K_0 := K_0.then_ hk (fun _ h => h.elim)
        refine ⟨_, rfl, ?_⟩
        clear hE a; intro a hE
        refine p_cons (s_still p4_18_20 hE (wn_some g4_18_17 rfl rfl) rfl (st_move rfl) ?_)
        clear hE a; intro a hE
        refine p_cons (s_call (xs := [Operand.tmp 93]) (args := [Value.pointer (some ⟨gC, 0, none⟩)]) p4_18_21 hE (wn_some g4_18_17 rfl rfl) rfl rfl Try.func17 cl17 (now_any gC (u : Int) (Value.map none) _ B_gC) ?_)
        rintro e w15 ⟨rfl, hk⟩
        replace B_gW := kp_blk B_gW hk (fun h => h)
        replace B_gC := kp_blk B_gC hk (fun h => h)
        replace O_b := own_keep O_b hk (fun _ _ h => h)
        replace K_0 := K_0.then_ hk (fun _ h => h.elim)
        refine ⟨_, rfl, ?_⟩
        clear hE a; intro a hE
        refine p_cons (s_still p4_18_22 hE (wn_some g4_18_17 rfl rfl) rfl (st_eql (b := true) rfl rfl (decide_eq_true (by omega))) ?_)
        clear hE a; intro a hE
        refine q0 p4_18_23 hE (st_pick rfl rfl) ?_
        clear hE a; intro a hE
        refine q0 p4_18_24 hE (st_move rfl) ?_
        clear hE a; intro a hE
        refine p_cons (s_still p4_18_25 hE (wn_some g4_18_24 rfl rfl) rfl (st_move rfl) ?_)
        clear hE a; intro a hE
        refine p_cons (s_still p4_18_26 hE (wn_some g4_18_24 rfl rfl) rfl (st_move rfl) ?_)
        clear hE a; intro a hE
        refine p_cons (s_still p4_18_27 hE (wn_some g4_18_24 rfl rfl) rfl (st_eql (b := true) rfl rfl (by decide)) ?_)
        clear hE a; intro a hE
        refine q0 p4_18_28 hE (st_pick rfl rfl) ?_
        clear hE a; intro a hE
        refine q0 p4_18_29 hE (st_move rfl) ?_
        clear hE a; intro a hE
        refine p_cons (s_still p4_18_30 hE (wn_some g4_18_29 rfl rfl) rfl (st_move rfl) ?_)
        clear hE a; intro a hE
        refine p_cons (s_still p4_18_31 hE (wn_some g4_18_29 rfl rfl) rfl (st_move rfl) ?_)
        clear hE a; intro a hE
        refine p_cons (s_still p4_18_32 hE (wn_some g4_18_29 rfl rfl) rfl (st_eql (b := true) rfl rfl (by decide)) ?_)
        clear hE a; intro a hE
        refine q0 p4_18_33 hE (st_pick rfl rfl) ?_
        clear hE a; intro a hE
        refine q0 p4_18_34 hE (st_assign rfl) ?_
        clear hE a; intro a hE
        refine p_nil ?_
        refine x_norm ?_
        refine wp_ret ?_
        refine ret_one (v := Value.bool true) rfl hE (.tmp rfl .nil) ?_
        exact hR _ K_0
  ·
    obtain ⟨gm9, es8, ck8, rfl, B_gm9, MF8, n_gW_gm9, z_0_gm9⟩ := hM.resolve_left (fun h => hNIL h.1)
    have hN := MF8.nodup
    have hps := front_one hfo
    have hfo1 : l9.length ≤ 100 := hfo.1
    refine c_reg R4_7_l ?_
    refine q0 p4_7_0 hE (st_move rfl) ?_
    clear hE a; intro a hE
    refine p_cons (s_call (xs := [Operand.tmp 44]) (args := [Value.pointer (some ⟨gW, 0, none⟩)]) p4_7_1 hE wn_none rfl rfl Try.func12 cl12 (copy_any gW gm9 ck8 es8 l9 0 _ B_gW B_gm9 MF8 n_gW_gm9) ?_)
    rintro e w16 ⟨gC, gD, rfl, zC9, zD9, n_gC_gD, B_gC, B_gD, hk⟩
    have n_gW_gC : gW ≠ gC := ne_new B_gW zC9
    have n_gm9_gC : gm9 ≠ gC := ne_new B_gm9 zC9
    have z_0_gC := Nat.le_trans K_0.kept.1 zC9
    have n_gW_gD : gW ≠ gD := ne_new B_gW zD9
    have n_gm9_gD : gm9 ≠ gD := ne_new B_gm9 zD9
    have z_0_gD := Nat.le_trans K_0.kept.1 zD9
    replace B_gW := kp_blk B_gW hk (fun h => h)
    replace B_gm9 := kp_blk B_gm9 hk (fun h => h)
    replace K_0 := K_0.then_ hk (fun _ h => h.elim)
    refine ⟨_, rfl, ?_⟩
    clear hE a; intro a hE
    refine q0 p4_7_2 hE (st_assign rfl) ?_
    clear hE a; intro a hE
    refine p_nil ?_
    refine x_norm ?_
    refine wp_seq ?_
    refine c_reg R4_8_l ?_
    refine q0 p4_8_0 hE (st_move rfl) ?_
    clear hE a; intro a hE
    refine q0 p4_8_1 hE (st_eqlP (b := false) tP24 rfl rfl rfl) ?_
    clear hE a; intro a hE
    refine p_nil ?_
    refine x_norm ?_
    refine c_cond (t := false) hE rfl ?_
    refine wp_skip ?_
    refine x_norm ?_
    refine c_reg R4_10_l ?_
    refine q0 p4_10_0 hE (st_move rfl) ?_
    clear hE a; intro a hE
    refine q0 p4_10_1 hE (st_move rfl) ?_
    clear hE a; intro a hE
    have hnb_gW := blk_lt B_gW
    have hnb_gm9 := blk_lt B_gm9
    have hnb_gC := blk_lt B_gC
    have hnb_gD := blk_lt B_gD
    have hnz_0 := K_0.kept.1
    refine p_cons (s_call (xs := [Operand.tmp 49, Operand.tmp 50]) (args := [Value.pointer (some ⟨gW, 0, none⟩), Value.int .i64 (nn : Int)]) p4_10_2 hE wn_none rfl rfl Try.func13 cl13 (run_any gW gm9 ck8 es8 l9 0 (nn : Int) (nn : Int) _ hmn hnI hn0 (by have := hfo.1; have := lft_len l9 0; omega) B_gW B_gm9 MF8 n_gW_gm9) ?_)
    rintro e w23 ⟨A17, c18, es19, ck20, rfl, O_q21, MF22, B_gm9', B_gW', hk⟩
    replace B_gC := kp_blk B_gC hk (fun h => h.elim (Ne.symm n_gW_gC) (Ne.symm n_gm9_gC))
    replace B_gD := kp_blk B_gD hk (fun h => h.elim (Ne.symm n_gW_gD) (Ne.symm n_gm9_gD))
    replace K_0 := K_0.then_ hk (fun k h => h.elim (fun h => by rw [show k = gW from h]; exact Or.inr z_0_gW) (fun h => by rw [show k = gm9 from h]; exact Or.inr z_0_gm9))
    replace B_gm9 := B_gm9'
    replace B_gW := B_gW'
    have Nb_q21_gW : ¬ OB A17 gW := fun h => by have := (own_ob O_q21 h).1; have := hnb_gW; omega
    have Nb_q21_gm9 : ¬ OB A17 gm9 := fun h => by have := (own_ob O_q21 h).1; have := hnb_gm9; omega
    have Nb_q21_gC : ¬ OB A17 gC := fun h => by have := (own_ob O_q21 h).1; have := hnb_gC; omega
    have Nb_q21_gD : ¬ OB A17 gD := fun h => by have := (own_ob O_q21 h).1; have := hnb_gD; omega
    have Z_0_q21 : ∀ k, OB A17 k → (fun _ => False) k ∨ w.heap.size ≤ k := fun k h => .inr (by have := (own_ob O_q21 h).1; have := hnz_0; omega)
    replace O_q21 := own_lower O_q21 hnz_0
    refine ⟨_, rfl, ?_⟩
    clear hE a; intro a hE
    refine q0 p4_10_3 hE (st_move rfl) ?_
    clear hE a; intro a hE
    refine q0 p4_10_4 hE (st_extract rfl rfl) ?_
    clear hE a; intro a hE
    refine q0 p4_10_5 hE (st_extract rfl rfl) ?_
    clear hE a; intro a hE
    refine q0 p4_10_6 hE (st_assign rfl) ?_
    clear hE a; intro a hE
    refine q0 p4_10_7 hE (st_assign rfl) ?_
    clear hE a; intro a hE
    refine p_nil ?_
    refine x_norm ?_
    refine c_reg R4_11_l ?_
    refine q0 p4_11_0 hE (st_assign rfl) ?_
    clear hE a; intro a hE
    refine p_nil ?_
    refine x_norm ?_
    refine wp_seq ?_
    refine c_reg R4_12_l ?_
    refine q0 p4_12_0 hE (st_assign rfl) ?_
    clear hE a; intro a hE
    refine p_nil ?_
    refine x_norm ?_
    refine wp_block ?_
    have O_b := own_none w23 w.heap.size 3 1
    have Nb_b_gW : ¬ OB none gW := ob_nil
    have Nb_b_gm9 : ¬ OB none gm9 := ob_nil
    have Nb_b_gC : ¬ OB none gC := ob_nil
    have Nb_b_gD : ¬ OB none gD := ob_nil
    have Z_0_b : ∀ k, OB none k → (fun _ => False) k ∨ w.heap.size ≤ k := fun k h => absurd h ob_nil
    have NN_b_q21 : ∀ k, OB none k → ¬ OB A17 k := fun k h => absurd h ob_nil
    have NN_q21_b : ∀ k, OB A17 k → ¬ OB none k := fun k h h2 => NN_b_q21 k h2 h
    refine c_loop (α := Nat) (fun u a W => ∃ (A_b : Option Addr) (c_b : Nat) (n_b : Nat), ∃ (es9 : Array MapEntry), ∃ (ck9 : Nat), En 107 a [(1, Value.int .i64 (nn : Int)), (5, Value.pointer (some ⟨gW, 0, none⟩)), (7, Value.pointer (some ⟨gC, 0, none⟩)), (47, Value.bool false), (8, Value.slice A17 ((fireO (0 + (nn : Int)) l9).length) c18), (9, Value.int .i64 0), (11, Value.int .i64 (u : Int)), (10, Value.slice A_b n_b c_b)] ∧ u ≤ nn ∧ MapI (Value.int .i64) es9 ck9 (lft l9 (u : Int)) ∧ W.heap[gW]? = some (.cells #[Value.int .i64 (0 + (nn : Int)), Value.map (some gm9)] 29 (0, 0)) ∧ W.heap[gm9]? = some (.map es19 ck20) ∧ W.heap[gC]? = some (.cells #[Value.int .i64 (u : Int), Value.map (some gD)] 29 (0, 0)) ∧ W.heap[gD]? = some (.map es9 ck9) ∧ W.ownsRow w.heap.size 3 1 (.slice A17 ((fireO (0 + (nn : Int)) l9).length) c18) ((fireO (0 + (nn : Int)) l9).length) (encs (Value.int .i64) (fireO (0 + (nn : Int)) l9)) ∧ ¬ OB A17 gW ∧ ¬ OB A17 gm9 ∧ ¬ OB A17 gC ∧ ¬ OB A17 gD ∧ (∀ k, OB A17 k → (fun _ => False) k ∨ w.heap.size ≤ k) ∧ (∀ k, OB A17 k → ¬ OB A_b k) ∧ n_b = ((accT l9 u).map (·.1)).length ∧ W.ownsRow w.heap.size 3 1 (.slice A_b n_b c_b) n_b (encs (Value.int .i64) ((accT l9 u).map (·.1))) ∧ ¬ OB A_b gW ∧ ¬ OB A_b gm9 ∧ ¬ OB A_b gC ∧ ¬ OB A_b gD ∧ (∀ k, OB A_b k → (fun _ => False) k ∨ w.heap.size ≤ k) ∧ (∀ k, OB A_b k → ¬ OB A17 k) ∧ Kp w W (fun _ => False)) (fun u => nn - u) (0) ?_ ?_
    ·
      exact ⟨none, 0, 0, es8, ck8, En.sub hE ⟨rfl, rfl, rfl, rfl, rfl, rfl, rfl, rfl, trivial⟩, Nat.zero_le _, (by rw [show ((0 : Nat) : Int) = 0 from rfl, lft_zero hps]; exact MF8), B_gW, B_gm9, B_gC, B_gD, O_q21, Nb_q21_gW, Nb_q21_gm9, Nb_q21_gC, Nb_q21_gD, Z_0_q21, NN_q21_b, rfl, O_b, Nb_b_gW, Nb_b_gm9, Nb_b_gC, Nb_b_gD, Z_0_b, NN_b_q21, K_0⟩
    ·
      clear hE a
      rintro u a w24 ⟨A_b, c_b, n_b, es9, ck9, hE, hu9, MF9, B_gW, B_gm9, B_gC, B_gD, O_q21, Nb_q21_gW, Nb_q21_gm9, Nb_q21_gC, Nb_q21_gD, Z_0_q21, NN_q21_b, hn_b, O_b, Nb_b_gW, Nb_b_gm9, Nb_b_gC, Nb_b_gD, Z_0_b, NN_b_q21, K_0⟩
      refine wp_seq ?_
      have hOl := fireO_len (now := (u : Int) + 1) (lft_nodup hN (u : Int))
      have hOl2 := lft_len l9 (u : Int)
      have hOl3 := accT_len hN hps u
      have hOl4 : n_b = (accT l9 u).length := by rw [hn_b, List.length_map]
      rcases Decidable.em ((u : Int) < (nn : Int)) with hK1 | hK1
      ·
        refine c_reg R4_13_l ?_
        refine q0 p4_13_0 hE (st_move rfl) ?_
        clear hE a; intro a hE
        refine q0 p4_13_1 hE (st_move rfl) ?_
        clear hE a; intro a hE
        refine q0 p4_13_2 hE (st_lss (b := true) rfl rfl (decide_eq_true hK1)) ?_
        clear hE a; intro a hE
        refine p_nil ?_
        refine x_norm ?_
        refine c_cond (t := true) hE rfl ?_
        refine wp_skip ?_
        refine x_norm ?_
        refine wp_seq ?_
        refine wp_block ?_
        refine c_regL R4_15_l ?_
        refine q0 p4_15_0 hE (st_move rfl) ?_
        clear hE a; intro a hE
        refine q0 p4_15_1 hE (st_move rfl) ?_
        clear hE a; intro a hE
        have hnb_gW := blk_lt B_gW
        have hnb_gm9 := blk_lt B_gm9
        have hnb_gC := blk_lt B_gC
        have hnb_gD := blk_lt B_gD
        have hnz_0 := K_0.kept.1
        have hno_q21 := fun k (h : OB A17 k) => (own_ob O_q21 h).2
        have hno_b := fun k (h : OB A_b k) => (own_ob O_b h).2
        refine p_cons (s_call (xs := [Operand.tmp 60]) (args := [Value.pointer (some ⟨gC, 0, none⟩)]) p4_15_2 hE wn_none rfl rfl Try.func10 cl10 (tick_any gC gD ck9 es9 (lft l9 (u : Int)) (u : Int)  _ ⟨by omega, by omega⟩ (by have := hfo.1; have := lft_len l9 (u : Int); omega) B_gC B_gD MF9 n_gC_gD) ?_)
        rintro e w31 ⟨A25, c26, es27, ck28, rfl, O_q29, MF30, B_gD', B_gC', hk⟩
        replace B_gW := kp_blk B_gW hk (fun h => h.elim n_gW_gC n_gW_gD)
        replace B_gm9 := kp_blk B_gm9 hk (fun h => h.elim n_gm9_gC n_gm9_gD)
        replace O_q21 := own_keep O_q21 hk (fun k hk2 h2 => h2.elim (fun h2 => Nb_q21_gC (by rw [show k = gC from h2] at hk2; exact hk2)) (fun h2 => Nb_q21_gD (by rw [show k = gD from h2] at hk2; exact hk2)))
        replace O_b := own_keep O_b hk (fun k hk2 h2 => h2.elim (fun h2 => Nb_b_gC (by rw [show k = gC from h2] at hk2; exact hk2)) (fun h2 => Nb_b_gD (by rw [show k = gD from h2] at hk2; exact hk2)))
        replace K_0 := K_0.then_ hk (fun k h => h.elim (fun h => by rw [show k = gC from h]; exact Or.inr z_0_gC) (fun h => by rw [show k = gD from h]; exact Or.inr z_0_gD))
        replace B_gD := B_gD'
        replace B_gC := B_gC'
        have Nb_q29_gW : ¬ OB A25 gW := fun h => by have := (own_ob O_q29 h).1; have := hnb_gW; omega
        have Nb_q29_gm9 : ¬ OB A25 gm9 := fun h => by have := (own_ob O_q29 h).1; have := hnb_gm9; omega
        have Nb_q29_gC : ¬ OB A25 gC := fun h => by have := (own_ob O_q29 h).1; have := hnb_gC; omega
        have Nb_q29_gD : ¬ OB A25 gD := fun h => by have := (own_ob O_q29 h).1; have := hnb_gD; omega
        have Z_0_q29 : ∀ k, OB A25 k → (fun _ => False) k ∨ w.heap.size ≤ k := fun k h => .inr (by have := (own_ob O_q29 h).1; have := hnz_0; omega)
        have NN_q29_q21 : ∀ k, OB A25 k → ¬ OB A17 k := fun k h h2 => by have := (own_ob O_q29 h).1; have := hno_q21 k h2; omega
        have NN_q21_q29 : ∀ k, OB A17 k → ¬ OB A25 k := fun k h h2 => NN_q29_q21 k h2 h
        have NN_q29_b : ∀ k, OB A25 k → ¬ OB A_b k := fun k h h2 => by have := (own_ob O_q29 h).1; have := hno_b k h2; omega
        have NN_b_q29 : ∀ k, OB A_b k → ¬ OB A25 k := fun k h h2 => NN_q29_b k h2 h
        replace O_q29 := own_lower O_q29 hnz_0
        refine ⟨_, rfl, ?_⟩
        clear hE a; intro a hE
        refine p_cons (s_appendC (xs := ((accT l9 u).map (·.1))) (ys := (fireO ((u : Int) + 1) (lft l9 (u : Int)))) p4_15_3 hE wn_none rfl Try.underlying35 eD3 rfl O_b rfl (own_told O_q29) (by omega) (by omega) K_0.kept.1 ?_)
        clear hE a; intro Ab32 cb33 w34 O_b' hk hat a hE
        have Nb_b_gW' := grow_n Nb_b_gW (blk_lt B_gW) hat
        have Nb_b_gm9' := grow_n Nb_b_gm9 (blk_lt B_gm9) hat
        have Nb_b_gC' := grow_n Nb_b_gC (blk_lt B_gC) hat
        have Nb_b_gD' := grow_n Nb_b_gD (blk_lt B_gD) hat
        have NN_q21_b' : ∀ k, OB A17 k → ¬ OB Ab32 k := fun k h h2 => (hat k h2).elim (NN_q21_b k h) (fun h3 => by have := (own_ob O_q21 h).2; omega)
        have NN_q29_b' : ∀ k, OB A25 k → ¬ OB Ab32 k := fun k h h2 => (hat k h2).elim (NN_q29_b k h) (fun h3 => by have := (own_ob O_q29 h).2; omega)
        have Z_0_b' := grow_z Z_0_b K_0.kept.1 hat
        replace B_gW := kp_blk B_gW hk Nb_b_gW
        replace B_gm9 := kp_blk B_gm9 hk Nb_b_gm9
        replace B_gC := kp_blk B_gC hk Nb_b_gC
        replace B_gD := kp_blk B_gD hk Nb_b_gD
        replace O_q21 := own_keep O_q21 hk NN_q21_b
        replace O_q29 := own_keep O_q29 hk NN_q29_b
        replace K_0 := K_0.then_ hk Z_0_b
        replace Nb_b_gW := Nb_b_gW'
        replace Nb_b_gm9 := Nb_b_gm9'
        replace Nb_b_gC := Nb_b_gC'
        replace Nb_b_gD := Nb_b_gD'
        replace NN_q21_b := NN_q21_b'
        replace NN_b_q21 : ∀ k, OB Ab32 k → ¬ OB A17 k := fun k h h2 => NN_q21_b k h2 h
        replace NN_q29_b := NN_q29_b'
        replace NN_b_q29 : ∀ k, OB Ab32 k → ¬ OB A25 k := fun k h h2 => NN_q29_b k h2 h
        replace Z_0_b := Z_0_b'
        replace O_b : w34.ownsRow _ 3 1 (.slice Ab32 (n_b + (fireO ((u : Int) + 1) (lft l9 (u : Int))).length) cb33) (n_b + (fireO ((u : Int) + 1) (lft l9 (u : Int))).length) (encs (Value.int .i64) (((accT l9 u).map (·.1)) ++ (fireO ((u : Int) + 1) (lft l9 (u : Int))))) := O_b'
        clear O_b' hk hat
        refine q0 p4_15_4 hE (st_assign rfl) ?_
        clear hE a; intro a hE
        refine p_nil ?_
        refine x_normB ?_
        refine x_norm ?_
        refine c_regL R4_14_l ?_
        refine q0 p4_14_0 hE (st_move rfl) ?_
        clear hE a; intro a hE
        refine q0 p4_14_1 hE (st_add (z := (u : Int) + 1) rfl rfl (wr_i64 _ (by omega) (by omega))) ?_
        clear hE a; intro a hE
        refine q0 p4_14_2 hE (st_assign rfl) ?_
        clear hE a; intro a hE
        refine p_nil ?_
        refine x_norm ?_
        have hFS := fire_left (lft_nodup hN (u : Int)) ((u : Int) + 1)
        have hFS2 : lft (lft l9 (u : Int)) ((u : Int) + 1) = lft l9 ((u : Int) + 1) := lft_next l9 (u : Int)
        rw [hFS2] at hFS
        have MFe := MF30
        rw [hFS] at MFe
        have e9 : (((accT l9 u).map (·.1)) ++ (fireO ((u : Int) + 1) (lft l9 (u : Int)))) = (accT l9 (u + 1)).map (·.1) := by show _ = (accT l9 u ++ _).map (·.1); rw [List.map_append]; rfl
        have hln9 : (n_b + (fireO ((u : Int) + 1) (lft l9 (u : Int))).length) = ((accT l9 (u + 1)).map (·.1)).length := by rw [← e9, List.length_append, ← hn_b]
        rw [e9] at O_b
        exact ⟨u + 1, by omega, Ab32, cb33, (n_b + (fireO ((u : Int) + 1) (lft l9 (u : Int))).length), es27, ck28, En.sub hE ⟨rfl, rfl, rfl, rfl, rfl, rfl, rfl, rfl, trivial⟩, by omega, MFe, B_gW, B_gm9, B_gC, B_gD, O_q21, Nb_q21_gW, Nb_q21_gm9, Nb_q21_gC, Nb_q21_gD, Z_0_q21, NN_q21_b, hln9, O_b, Nb_b_gW, Nb_b_gm9, Nb_b_gC, Nb_b_gD, Z_0_b, NN_b_q21, K_0⟩
      ·
        refine c_reg R4_13_l ?_
        refine q0 p4_13_0 hE (st_move rfl) ?_
        clear hE a; intro a hE
        refine q0 p4_13_1 hE (st_move rfl) ?_
        clear hE a; intro a hE
        refine q0 p4_13_2 hE (st_lss (b := false) rfl rfl (decide_eq_false hK1)) ?_
        clear hE a; intro a hE
        refine p_nil ?_
        refine x_norm ?_
        refine c_cond (t := false) hE rfl ?_
        refine wp_exit ?_
        refine x_exit ?_
        refine x_exit ?_
        obtain rfl : u = nn := by omega
        have hWl := fire_left hN (0 + (u : Int))
        rw [Int.zero_add] at hWl
        have MFw := MF22
        rw [Int.zero_add, hWl] at MFw
        have hAB := accT_all hN hps u
        refine x_in ?_
        refine x_norm ?_
        refine c_reg R4_16_l ?_
        refine q0 p4_16_0 hE (st_move rfl) ?_
        clear hE a; intro a hE
        refine p_cons (s_call (xs := [Operand.tmp 64]) (args := [Value.pointer (some ⟨gW, 0, none⟩)]) p4_16_1 hE wn_none rfl rfl Try.func14 cl14 (next_any gW gm9 ck20 es19 (lft l9 (u : Int)) (0 + (u : Int)) _ (by have := lft_len l9 (u : Int); omega) B_gW B_gm9 MFw n_gW_gm9) ?_)
        rintro e w35 ⟨rfl, hk⟩
        replace B_gW := kp_blk B_gW hk (fun h => h)
        replace B_gm9 := kp_blk B_gm9 hk (fun h => h)
        replace B_gC := kp_blk B_gC hk (fun h => h)
        replace B_gD := kp_blk B_gD hk (fun h => h)
        replace O_q21 := own_keep O_q21 hk (fun _ _ h => h)
        replace O_b := own_keep O_b hk (fun _ _ h => h)
        replace K_0 := K_0.then_ hk (fun _ h => h.elim)
        refine ⟨_, rfl, ?_⟩
        clear hE a; intro a hE
        refine q0 p4_16_2 hE (st_move rfl) ?_
        clear hE a; intro a hE
        refine q0 p4_16_3 hE (st_extract rfl rfl) ?_
        clear hE a; intro a hE
        refine q0 p4_16_4 hE (st_extract rfl rfl) ?_
        clear hE a; intro a hE
        refine q0 p4_16_5 hE (st_assign rfl) ?_
        clear hE a; intro a hE
        refine q0 p4_16_6 hE (st_assign rfl) ?_
        clear hE a; intro a hE
        refine p_nil ?_
        refine x_norm ?_
        refine c_reg R4_17_l ?_
        refine q0 p4_17_0 hE (st_move rfl) ?_
        clear hE a; intro a hE
        refine p_cons (s_call (xs := [Operand.tmp 69]) (args := [Value.pointer (some ⟨gC, 0, none⟩)]) p4_17_1 hE wn_none rfl rfl Try.func14 cl14 (next_any gC gD ck9 es9 (lft l9 (u : Int)) (u : Int) _ (by have := lft_len l9 (u : Int); omega) B_gC B_gD MF9 n_gC_gD) ?_)
        rintro e w36 ⟨rfl, hk⟩
        replace B_gW := kp_blk B_gW hk (fun h => h)
        replace B_gm9 := kp_blk B_gm9 hk (fun h => h)
        replace B_gC := kp_blk B_gC hk (fun h => h)
        replace B_gD := kp_blk B_gD hk (fun h => h)
        replace O_q21 := own_keep O_q21 hk (fun _ _ h => h)
        replace O_b := own_keep O_b hk (fun _ _ h => h)
        replace K_0 := K_0.then_ hk (fun _ h => h.elim)
        refine ⟨_, rfl, ?_⟩
        clear hE a; intro a hE
        refine q0 p4_17_2 hE (st_move rfl) ?_
        clear hE a; intro a hE
        refine q0 p4_17_3 hE (st_extract rfl rfl) ?_
        clear hE a; intro a hE
        refine q0 p4_17_4 hE (st_extract rfl rfl) ?_
        clear hE a; intro a hE
        refine q0 p4_17_5 hE (st_assign rfl) ?_
        clear hE a; intro a hE
        refine q0 p4_17_6 hE (st_assign rfl) ?_
        clear hE a; intro a hE
        refine p_nil ?_
        refine x_norm ?_
        refine c_reg R4_18_l ?_
        refine p_cons (s_call (xs := []) (args := []) p4_18_0 hE wn_none rfl rfl Try.func11 cl11 (kn10  _) ?_)
        rintro e w37 ⟨rfl, hk⟩
        replace B_gW := kp_blk B_gW hk (fun h => h)
        replace B_gm9 := kp_blk B_gm9 hk (fun h => h)
        replace B_gC := kp_blk B_gC hk (fun h => h)
        replace B_gD := kp_blk B_gD hk (fun h => h)
        replace O_q21 := own_keep O_q21 hk (fun _ _ h => h)
        replace O_b := own_keep O_b hk (fun _ _ h => h)
        replace K_0 := K_0.then_ hk (fun _ h => h.elim)
        refine ⟨_, rfl, ?_⟩
        clear hE a; intro a hE
        refine q0 p4_18_1 hE (st_move rfl) ?_
        clear hE a; intro a hE
        refine p_cons (s_still p4_18_2 hE (wn_some g4_18_1 rfl rfl) rfl (st_move rfl) ?_)
        clear hE a; intro a hE
        refine p_cons (s_still p4_18_3 hE (wn_some g4_18_1 rfl rfl) rfl (st_eql (b := true) rfl rfl (by decide)) ?_)
        clear hE a; intro a hE
        refine q0 p4_18_4 hE (st_pick rfl rfl) ?_
        clear hE a; intro a hE
        refine q0 p4_18_5 hE (st_move rfl) ?_
        clear hE a; intro a hE
        refine p_cons (s_still p4_18_6 hE (wn_some g4_18_5 rfl rfl) rfl (st_move rfl) ?_)
        clear hE a; intro a hE
        refine p_cons (s_still p4_18_7 hE (wn_some g4_18_5 rfl rfl) rfl (st_move rfl) ?_)
        clear hE a; intro a hE
        have hAl := fireO_len (now := (u : Int)) hN
        have hAB2 : (fireO (0 + (u : Int)) l9) = fireO (u : Int) l9 := by rw [Int.zero_add]
        have hfB := (own_told O_b)
        have hfA := (own_told O_q21)
        have hnb2 : n_b = (fireO (0 + (u : Int)) l9).length := by rw [hn_b, hAB, hAB2]
        rw [hAB, ← hAB2, hnb2] at hfB
        have hct := same_i A17 A_b c18 c_b (fireO (0 + (u : Int)) l9) w37 (by rw [hAB2]; have := hfo.1; omega) hfA hfB
        have hct : Calls Try.prog 15 #[.slice A17 (fireO (0 + (u : Int)) l9).length c18, .slice A_b n_b c_b] w37 fun e w' => e = .returned (.bool true) ∧ Kp w37 w' (fun _ => False) := by rw [hnb2]; exact hct
        refine p_cons (s_call (xs := [Operand.tmp 79, Operand.tmp 80]) (args := [Value.slice A17 ((fireO (0 + (u : Int)) l9).length) c18, Value.slice A_b n_b c_b]) p4_18_8 hE (wn_some g4_18_5 rfl rfl) rfl rfl Try.func15 cl15 (hct) ?_)
        rintro e w38 ⟨rfl, hk⟩
        replace B_gW := kp_blk B_gW hk (fun h => h)
        replace B_gm9 := kp_blk B_gm9 hk (fun h => h)
        replace B_gC := kp_blk B_gC hk (fun h => h)
        replace B_gD := kp_blk B_gD hk (fun h => h)
        replace O_q21 := own_keep O_q21 hk (fun _ _ h => h)
        replace O_b := own_keep O_b hk (fun _ _ h => h)
        replace K_0 := K_0.then_ hk (fun _ h => h.elim)
        refine ⟨_, rfl, ?_⟩
        clear hE a; intro a hE
        refine q0 p4_18_9 hE (st_pick rfl rfl) ?_
        clear hE a; intro a hE
        refine q0 p4_18_10 hE (st_move rfl) ?_
        clear hE a; intro a hE
        refine p_cons (s_still p4_18_11 hE (wn_some g4_18_10 rfl rfl) rfl (st_move rfl) ?_)
        clear hE a; intro a hE
        refine p_cons (s_call (xs := [Operand.tmp 84]) (args := [Value.pointer (some ⟨gW, 0, none⟩)]) p4_18_12 hE (wn_some g4_18_10 rfl rfl) rfl rfl Try.func16 cl16 (len_any gW gm9 ck20 es19 (lft l9 (u : Int)) (0 + (u : Int)) _ B_gW B_gm9 MFw n_gW_gm9) ?_)
        rintro e w39 ⟨rfl, hk⟩
        replace B_gW := kp_blk B_gW hk (fun h => h)
        replace B_gm9 := kp_blk B_gm9 hk (fun h => h)
        replace B_gC := kp_blk B_gC hk (fun h => h)
        replace B_gD := kp_blk B_gD hk (fun h => h)
        replace O_q21 := own_keep O_q21 hk (fun _ _ h => h)
        replace O_b := own_keep O_b hk (fun _ _ h => h)
        replace K_0 := K_0.then_ hk (fun _ h => h.elim)
        refine ⟨_, rfl, ?_⟩
        clear hE a; intro a hE
        refine p_cons (s_still p4_18_13 hE (wn_some g4_18_10 rfl rfl) rfl (st_move rfl) ?_)
        clear hE a; intro a hE
        refine p_cons (s_call (xs := [Operand.tmp 86]) (args := [Value.pointer (some ⟨gC, 0, none⟩)]) p4_18_14 hE (wn_some g4_18_10 rfl rfl) rfl rfl Try.func16 cl16 (len_any gC gD ck9 es9 (lft l9 (u : Int)) (u : Int) _ B_gC B_gD MF9 n_gC_gD) ?_)
        rintro e w40 ⟨rfl, hk⟩
        replace B_gW := kp_blk B_gW hk (fun h => h)
        replace B_gm9 := kp_blk B_gm9 hk (fun h => h)
        replace B_gC := kp_blk B_gC hk (fun h => h)
        replace B_gD := kp_blk B_gD hk (fun h => h)
        replace O_q21 := own_keep O_q21 hk (fun _ _ h => h)
        replace O_b := own_keep O_b hk (fun _ _ h => h)
        replace K_0 := K_0.then_ hk (fun _ h => h.elim)
        refine ⟨_, rfl, ?_⟩
        clear hE a; intro a hE
        refine p_cons (s_still p4_18_15 hE (wn_some g4_18_10 rfl rfl) rfl (st_eql (b := true) rfl rfl (by simp)) ?_)
        clear hE a; intro a hE
        refine q0 p4_18_16 hE (st_pick rfl rfl) ?_
        clear hE a; intro a hE
        refine q0 p4_18_17 hE (st_move rfl) ?_
        clear hE a; intro a hE
        refine p_cons (s_still p4_18_18 hE (wn_some g4_18_17 rfl rfl) rfl (st_move rfl) ?_)
        clear hE a; intro a hE
        refine p_cons (s_call (xs := [Operand.tmp 91]) (args := [Value.pointer (some ⟨gW, 0, none⟩)]) p4_18_19 hE (wn_some g4_18_17 rfl rfl) rfl rfl Try.func17 cl17 (now_any gW (0 + (u : Int)) (Value.map (some gm9)) _ B_gW) ?_)
        rintro e w41 ⟨rfl, hk⟩
        replace B_gW := kp_blk B_gW hk (fun h => h)
        replace B_gm9 := kp_blk B_gm9 hk (fun h => h)
        replace B_gC := kp_blk B_gC hk (fun h => h)
        replace B_gD := kp_blk B_gD hk (fun h => h)
        replace O_q21 := own_keep O_q21 hk (fun _ _ h => h)
        replace O_b := own_keep O_b hk (fun _ _ h => h)
        replace K_0 := K_0.then_ hk (fun _ h => h.elim)
        refine ⟨_, rfl, ?_⟩
        clear hE a; intro a hE
        refine p_cons (s_still p4_18_20 hE (wn_some g4_18_17 rfl rfl) rfl (st_move rfl) ?_)
        clear hE a; intro a hE
        refine p_cons (s_call (xs := [Operand.tmp 93]) (args := [Value.pointer (some ⟨gC, 0, none⟩)]) p4_18_21 hE (wn_some g4_18_17 rfl rfl) rfl rfl Try.func17 cl17 (now_any gC (u : Int) (Value.map (some gD)) _ B_gC) ?_)
        rintro e w42 ⟨rfl, hk⟩
        replace B_gW := kp_blk B_gW hk (fun h => h)
        replace B_gm9 := kp_blk B_gm9 hk (fun h => h)
        replace B_gC := kp_blk B_gC hk (fun h => h)
        replace B_gD := kp_blk B_gD hk (fun h => h)
        replace O_q21 := own_keep O_q21 hk (fun _ _ h => h)
        replace O_b := own_keep O_b hk (fun _ _ h => h)
        replace K_0 := K_0.then_ hk (fun _ h => h.elim)
        refine ⟨_, rfl, ?_⟩
        clear hE a; intro a hE
        refine p_cons (s_still p4_18_22 hE (wn_some g4_18_17 rfl rfl) rfl (st_eql (b := true) rfl rfl (decide_eq_true (by omega))) ?_)
        clear hE a; intro a hE
        refine q0 p4_18_23 hE (st_pick rfl rfl) ?_
        clear hE a; intro a hE
        refine q0 p4_18_24 hE (st_move rfl) ?_
        clear hE a; intro a hE
        refine p_cons (s_still p4_18_25 hE (wn_some g4_18_24 rfl rfl) rfl (st_move rfl) ?_)
        clear hE a; intro a hE
        refine p_cons (s_still p4_18_26 hE (wn_some g4_18_24 rfl rfl) rfl (st_move rfl) ?_)
        clear hE a; intro a hE
        refine p_cons (s_still p4_18_27 hE (wn_some g4_18_24 rfl rfl) rfl (st_eql (b := true) rfl rfl (by simp)) ?_)
        clear hE a; intro a hE
        refine q0 p4_18_28 hE (st_pick rfl rfl) ?_
        clear hE a; intro a hE
        refine q0 p4_18_29 hE (st_move rfl) ?_
        clear hE a; intro a hE
        refine p_cons (s_still p4_18_30 hE (wn_some g4_18_29 rfl rfl) rfl (st_move rfl) ?_)
        clear hE a; intro a hE
        refine p_cons (s_still p4_18_31 hE (wn_some g4_18_29 rfl rfl) rfl (st_move rfl) ?_)
        clear hE a; intro a hE
        refine p_cons (s_still p4_18_32 hE (wn_some g4_18_29 rfl rfl) rfl (st_eql (b := true) rfl rfl (by simp)) ?_)
        clear hE a; intro a hE
        refine q0 p4_18_33 hE (st_pick rfl rfl) ?_
        clear hE a; intro a hE
        refine q0 p4_18_34 hE (st_assign rfl) ?_
        clear hE a; intro a hE
        refine p_nil ?_
        refine x_norm ?_
        refine wp_ret ?_
        refine ret_one (v := Value.bool true) rfl hE (.tmp rfl .nil) ?_
        exact hR _ K_0
theorem R4_0_l : List.range (regOf Try.f4 0).size = [0] := by kernel_rfl
theorem R4_1_l : List.range (regOf Try.f4 1).size = [0, 1, 2, 3, 4] := by kernel_rfl
theorem R4_2_l : List.range (regOf Try.f4 2).size = [0, 1, 2] := by kernel_rfl
theorem R4_3_l : List.range (regOf Try.f4 3).size = [0] := by kernel_rfl
theorem R4_4_l : List.range (regOf Try.f4 4).size = [0, 1, 2, 3, 4, 5, 6, 7] := by kernel_rfl
theorem R4_6_l : List.range (regOf Try.f4 6).size = [0, 1, 2, 3, 4, 5, 6, 7, 8, 9, 10, 11] := by kernel_rfl
theorem R4_5_l : List.range (regOf Try.f4 5).size = [0, 1, 2] := by kernel_rfl
theorem body4 : Try.f4.body = some (.seq (.region 0 (regOf Try.f4 0) false) (.seq (.region 1 (regOf Try.f4 1) false) (.seq (.region 2 (regOf Try.f4 2) false) (.seq (.seq (.region 3 (regOf Try.f4 3) false) (.block 0 (.loop (.seq (.seq (.region 4 (regOf Try.f4 4) false) (.cond (Operand.tmp 29) (.skip) (.exit 0))) (.seq (.block 1 (.region 6 (regOf Try.f4 6) true)) (.region 5 (regOf Try.f4 5) false)))))) (.seq (.region 7 (regOf Try.f4 7) false) (.seq (.seq (.region 8 (regOf Try.f4 8) false) (.cond (Operand.tmp 47) (.seq (.region 9 (regOf Try.f4 9) false) (.ret)) (.skip))) (.seq (.region 10 (regOf Try.f4 10) false) (.seq (.region 11 (regOf Try.f4 11) false) (.seq (.seq (.region 12 (regOf Try.f4 12) false) (.block 2 (.loop (.seq (.seq (.region 13 (regOf Try.f4 13) false) (.cond (Operand.tmp 56) (.skip) (.exit 2))) (.seq (.block 3 (.region 15 (regOf Try.f4 15) false)) (.region 14 (regOf Try.f4 14) false)))))) (.seq (.region 16 (regOf Try.f4 16) false) (.seq (.region 17 (regOf Try.f4 17) false) (.seq (.region 18 (regOf Try.f4 18) false) (.ret))))))))))))) := by kernel_rfl
theorem p4_0_0 : pj (regOf Try.f4 0) 0 = some (some 4, .assign (.const (.bool false)), 4, none) := by kernel_rfl
theorem p4_1_0 : pj (regOf Try.f4 1) 0 = some (some 16, .move (.tmp 1), 3, none) := by kernel_rfl
theorem p4_1_1 : pj (regOf Try.f4 1) 1 = some (some 17, .convert 3 23 (.tmp 16), 23, none) := by kernel_rfl
theorem p4_1_2 : pj (regOf Try.f4 1) 2 = some (some 18, .binOp .rem 23 (.tmp 17) (.const (.int .u64 200)) 23, 23, none) := by kernel_rfl
theorem p4_1_3 : pj (regOf Try.f4 1) 3 = some (some 19, .convert 23 3 (.tmp 18), 3, none) := by kernel_rfl
theorem p4_1_4 : pj (regOf Try.f4 1) 4 = some (some 1, .assign (.tmp 19), 3, none) := by kernel_rfl
theorem p4_2_0 : pj (regOf Try.f4 2) 0 = some (some 20, .build 29 #[], 29, none) := by kernel_rfl
theorem p4_2_1 : pj (regOf Try.f4 2) 1 = some (some 21, .box 29 (.tmp 20), 24, none) := by kernel_rfl
theorem p4_2_2 : pj (regOf Try.f4 2) 2 = some (some 5, .assign (.tmp 21), 24, none) := by kernel_rfl
theorem p4_3_0 : pj (regOf Try.f4 3) 0 = some (some 6, .assign (.const (.int .i64 0)), 3, none) := by kernel_rfl
theorem p4_4_0 : pj (regOf Try.f4 4) 0 = some (some 22, .move (.tmp 6), 3, none) := by kernel_rfl
theorem p4_4_1 : pj (regOf Try.f4 4) 1 = some (some 23, .move (.tmp 0), 22, none) := by kernel_rfl
theorem p4_4_2 : pj (regOf Try.f4 4) 2 = some (some 24, .call { callee := .builtin .len, args := #[.tmp 23], argTypes := #[22] }, 3, none) := by kernel_rfl
theorem p4_4_3 : pj (regOf Try.f4 4) 3 = some (some 25, .binOp .lss 3 (.tmp 22) (.tmp 24) 3, 4, none) := by kernel_rfl
theorem p4_4_4 : pj (regOf Try.f4 4) 4 = some (some 26, .move (.tmp 25), 4, none) := by kernel_rfl
theorem p4_4_5 : pj (regOf Try.f4 4) 5 = some (some 27, .move (.tmp 6), 3, some (4, true)) := by kernel_rfl
theorem g4_4_4 : dstOf (regOf Try.f4 4) 4 = some 26 := by kernel_rfl
theorem p4_4_6 : pj (regOf Try.f4 4) 6 = some (some 28, .binOp .lss 3 (.tmp 27) (.const (.int .i64 30)) 3, 4, some (4, true)) := by kernel_rfl
theorem p4_4_7 : pj (regOf Try.f4 4) 7 = some (some 29, .pick (.tmp 26) (.tmp 28) (.const (.bool false)), 4, none) := by kernel_rfl
theorem ns4_6 : Region.noSelect (regOf Try.f4 6) = true := by kernel_rfl
theorem p4_6_0 : pj (regOf Try.f4 6) 0 = some (some 32, .move (.tmp 5), 24, none) := by kernel_rfl
theorem p4_6_1 : pj (regOf Try.f4 6) 1 = some (some 33, .move (.tmp 0), 22, none) := by kernel_rfl
theorem p4_6_2 : pj (regOf Try.f4 6) 2 = some (some 34, .move (.tmp 6), 3, none) := by kernel_rfl
theorem p4_6_3 : pj (regOf Try.f4 6) 3 = some (some 35, .indexAddr 22 (.tmp 33) (.tmp 34), 0, none) := by kernel_rfl
theorem tS33 : (Try.prog.info? 33).map (·.size) = some 3 := by kernel_rfl
theorem p4_6_4 : pj (regOf Try.f4 6) 4 = some (some 36, .fieldAddr 33 (.tmp 35) 1, 0, none) := by kernel_rfl
theorem p4_6_5 : pj (regOf Try.f4 6) 5 = some (some 37, .load 3 (.tmp 36), 3, none) := by kernel_rfl
theorem p4_6_6 : pj (regOf Try.f4 6) 6 = some (some 38, .move (.tmp 0), 22, none) := by kernel_rfl
theorem p4_6_7 : pj (regOf Try.f4 6) 7 = some (some 39, .move (.tmp 6), 3, none) := by kernel_rfl
theorem p4_6_8 : pj (regOf Try.f4 6) 8 = some (some 40, .indexAddr 22 (.tmp 38) (.tmp 39), 0, none) := by kernel_rfl
theorem p4_6_9 : pj (regOf Try.f4 6) 9 = some (some 41, .fieldAddr 33 (.tmp 40) 2, 0, none) := by kernel_rfl
theorem p4_6_10 : pj (regOf Try.f4 6) 10 = some (some 42, .load 3 (.tmp 41), 3, none) := by kernel_rfl
theorem p4_6_11 : pj (regOf Try.f4 6) 11 = some (some 43, .call { callee := .value (.func 8), args := #[.tmp 32, .tmp 37, .tmp 42], argTypes := #[24, 3, 3] }, 30, none) := by kernel_rfl
theorem cl8 : callable Try.f8 = true := by kernel_rfl
theorem p4_5_0 : pj (regOf Try.f4 5) 0 = some (some 30, .move (.tmp 6), 3, none) := by kernel_rfl
theorem p4_5_1 : pj (regOf Try.f4 5) 1 = some (some 31, .binOp .add 3 (.tmp 30) (.const (.int .i64 1)) 3, 3, none) := by kernel_rfl
theorem p4_5_2 : pj (regOf Try.f4 5) 2 = some (some 6, .assign (.tmp 31), 3, none) := by kernel_rfl
set_option maxHeartbeats 4000000 in
theorem walk (a0 : Option Addr) (cap0 : Nat) (z0 : List (Int × Int × Int)) (a1 : Int) (w : World) (w0 : Kd.C (Kd.pair (Kd.int .i64) (Kd.pair (Kd.int .i64) (Kd.int .i64))) w a0 z0.length z0) (m0 : z0.length ≤ cap0) (o0 : (z0.length ≤ maxLen ∧ ∀ x0 ∈ z0, ((Lit.int .i64 x0.1).wf = true ∧ ((Lit.int .i64 x0.2.1).wf = true ∧ ((Lit.int .i64 x0.2.2).wf = true))))) (y0 : z0.length * Try.prog.bytesOf 33 ≤ 140737488351232) (c0 : cap0 ≤ maxLen ∧ (a0 = none → cap0 = 0)) (w1 : (Lit.int .i64 a1).wf = true) :
    Calls Try.prog 4 #[.slice a0 z0.length cap0, .int .i64 a1] w fun e w' => e = .returned (.bool true) ∧ Below w.heap.size w w' := by
  have K_0 := Kp.refl w (fun _ => False)
  have Fz1 := w0
  obtain ⟨nn, hi⟩ : ∃ n : Nat, a1 % 18446744073709551616 % 200 = (n : Int) := ⟨(a1 % 18446744073709551616 % 200).toNat, by omega⟩
  have hnn : nn ≤ 200 := by omega
  refine enter (args := [Value.slice a0 z0.length cap0, Value.int .i64 a1]) (n := 107) Try.func4 body4 rfl rfl rfl ?_
  intro a hE
  refine c_reg R4_0_l ?_
  refine q0 p4_0_0 hE (st_assign rfl) ?_
  clear hE a; intro a hE
  refine p_nil ?_
  refine x_norm ?_
  refine c_reg R4_1_l ?_
  refine q0 p4_1_0 hE (st_move rfl) ?_
  clear hE a; intro a hE
  refine q0 p4_1_1 hE (st_conv (z := (a1 % 18446744073709551616)) (by kernel_rfl) Try.underlying23 rfl (IntKind.wrap_u64 _)) ?_
  clear hE a; intro a hE
  refine q0 p4_1_2 hE (st_rem (z := (a1 % 18446744073709551616) % 200) rfl rfl (by omega) (Int.tmod_eq_emod_of_nonneg (by omega))) ?_
  clear hE a; intro a hE
  refine q0 p4_1_3 hE (st_conv (z := (nn : Int)) (by kernel_rfl) Try.underlying3 rfl (by rw [hi]; exact wr_i64 _ (by omega) (by omega))) ?_
  clear hE a; intro a hE
  refine q0 p4_1_4 hE (st_assign rfl) ?_
  clear hE a; intro a hE
  refine p_nil ?_
  refine x_norm ?_
  refine c_reg R4_2_l ?_
  refine q0 p4_2_0 hE (st_build (xs := []) (vs := []) (cs := #[Value.int .i64 0, Value.map none]) rfl (by kernel_rfl)) ?_
  clear hE a; intro a hE
  refine p_cons (s_box p4_2_1 hE wn_none rfl rfl ?_)
  clear hE a; intro g1 w2 z3 B_g1 hk a hE
  replace B_g1 : w2.heap[g1]? = some (.cells #[Value.int .i64 0, Value.map none] 29 (0, 0)) := B_g1
  have z_0_g1 := Nat.le_trans K_0.kept.1 z3
  replace K_0 := K_0.then_ hk (fun _ h => h.elim)
  clear hk
  refine q0 p4_2_2 hE (st_assign rfl) ?_
  clear hE a; intro a hE
  refine p_nil ?_
  refine x_norm ?_
  refine wp_seq ?_
  refine c_reg R4_3_l ?_
  refine q0 p4_3_0 hE (st_assign rfl) ?_
  clear hE a; intro a hE
  refine p_nil ?_
  refine x_norm ?_
  refine wp_block ?_
  refine c_loop (α := Nat) (fun i a W => ∃ (mb : Option Nat), ∃ (l9 : LW), En 107 a [(0, Value.slice a0 z0.length cap0), (1, Value.int .i64 (nn : Int)), (4, Value.bool false), (5, Value.pointer (some ⟨g1, 0, none⟩)), (6, Value.int .i64 (i : Int))] ∧ (((mb = none ∧ l9 = []) ∨ ∃ gm es ck, mb = some gm ∧ W.heap[gm]? = some (.map es ck) ∧ MapI (Value.int .i64) es ck l9 ∧ g1 ≠ gm ∧ w.heap.size ≤ gm)) ∧ FrontOk l9 i ∧ i ≤ z0.length ∧ i ≤ 30 ∧ W.heap[g1]? = some (.cells #[Value.int .i64 0, Value.map mb] 29 (0, 0)) ∧ Kp w W (fun _ => False)) (fun i => z0.length - i) (0) ?_ ?_
  ·
    exact ⟨none, [], En.sub hE ⟨rfl, rfl, rfl, rfl, rfl, trivial⟩, (.inl ⟨rfl, rfl⟩), (front_nil 0), Nat.zero_le _, Nat.zero_le _, B_g1, K_0⟩
  ·
    clear hE a
    rintro i a w4 ⟨mb, l9, hE, hM, hfo, hi9, hi8, B_g1, K_0⟩
    refine wp_seq ?_
    rcases Decidable.em ((i : Int) < (z0.length : Int)) with hI1 | hI1
    ·
      rcases Decidable.em ((i : Int) < 30) with hI2 | hI2
      ·
        refine c_reg R4_4_l ?_
        refine q0 p4_4_0 hE (st_move rfl) ?_
        clear hE a; intro a hE
        refine q0 p4_4_1 hE (st_move rfl) ?_
        clear hE a; intro a hE
        refine q0 p4_4_2 hE (st_len Try.underlying22 rfl) ?_
        clear hE a; intro a hE
        refine q0 p4_4_3 hE (st_lss (b := true) rfl rfl (decide_eq_true hI1)) ?_
        clear hE a; intro a hE
        refine q0 p4_4_4 hE (st_move rfl) ?_
        clear hE a; intro a hE
        refine p_cons (s_still p4_4_5 hE (wn_some g4_4_4 rfl rfl) rfl (st_move rfl) ?_)
        clear hE a; intro a hE
        refine p_cons (s_still p4_4_6 hE (wn_some g4_4_4 rfl rfl) rfl (st_lss (b := true) rfl rfl (decide_eq_true hI2)) ?_)
        clear hE a; intro a hE
        refine q0 p4_4_7 hE (st_pick rfl rfl) ?_
        clear hE a; intro a hE
        refine p_nil ?_
        refine x_norm ?_
        refine c_cond (t := true) hE rfl ?_
        refine wp_skip ?_
        refine x_norm ?_
        refine wp_seq ?_
        refine wp_block ?_
        obtain ⟨hAe, cce, hKe, hce⟩ := C_elem (i := i) Fz1 zA (show i < z0.length by omega)
        obtain ⟨⟨xk, xa, xb⟩, hxe⟩ : ∃ x, List.getD z0 i zA = x := ⟨_, rfl⟩
        rw [hxe] at hKe
        obtain rfl := act_open hKe
        rcases Decidable.em (mb = none) with hNIL | hNIL
        ·
          subst hNIL
          obtain rfl : l9 = [] := by rcases hM with ⟨_, h⟩ | ⟨gm, es, ck, h, _⟩; exact h; cases h
          rcases Decidable.em (codeW 0 xa xb = 0) with hOKW | hOKW
          ·
            refine c_draw (S := fun W => (∀ j u, ([Value.int .i64 xk, Value.int .i64 xa, Value.int .i64 xb])[j]? = some u → W.cell? (ea a0 (i * 3 + j)) = some u) ∧ True) rfl rfl (listed := #[false, false, false, false, false, false, false, false, false, false, false, false]) rfl ?_
            intro w5 hh hk
            replace B_g1 := kp_blk B_g1 hk (fun h => h)
            replace K_0 := K_0.then_ hk (fun _ h => h.elim)
            clear hh hk
            refine d_take (v := Value.pointer (some ⟨g1, 0, none⟩)) p4_6_0 ns4_6 (by kernel_rfl) (by kernel_rfl) (fun _ _ _ h => h) hE wn_none rfl ⟨(fun j u h => cell_to K_0 (hce j u h)), trivial⟩ (fun W hS => (st_move rfl)) rfl ?_
            clear hE a; intro a hE
            refine d_take (v := Value.slice a0 z0.length cap0) p4_6_1 ns4_6 (by kernel_rfl) (by kernel_rfl) (fun _ _ _ h => h) hE wn_none rfl ⟨(fun j u h => cell_to K_0 (hce j u h)), trivial⟩ (fun W hS => (st_move rfl)) rfl ?_
            clear hE a; intro a hE
            refine d_take (v := Value.int .i64 (i : Int)) p4_6_2 ns4_6 (by kernel_rfl) (by kernel_rfl) (fun _ _ _ h => h) hE wn_none rfl ⟨(fun j u h => cell_to K_0 (hce j u h)), trivial⟩ (fun W hS => (st_move rfl)) rfl ?_
            clear hE a; intro a hE
            refine d_take (v := Value.pointer (some (ea a0 (i * 3)))) p4_6_3 ns4_6 (by kernel_rfl) (by kernel_rfl) (fun _ _ _ h => h) hE wn_none rfl ⟨(fun j u h => cell_to K_0 (hce j u h)), trivial⟩ (fun W hS => (st_indexAddrR (i := i) (s := 3) Try.underlying22 tS33 hAe rfl rfl (by omega))) rfl ?_
            clear hE a; intro a hE
            refine d_take (v := Value.pointer (some (ea a0 (i * 3 + 1)))) p4_6_4 ns4_6 (by kernel_rfl) (by kernel_rfl) (fun _ _ _ h => h) hE wn_none rfl ⟨(fun j u h => cell_to K_0 (hce j u h)), trivial⟩ (fun W hS => (st_fieldAddrR (off := i * 3) (f0 := 1) (o' := i * 3 + 1) Try.underlying33 rfl tS3 rfl (by omega) rfl)) rfl ?_
            clear hE a; intro a hE
            refine d_take (v := Value.int .i64 xa) p4_6_5 ns4_6 (by kernel_rfl) (by kernel_rfl) (fun _ _ _ h => h) hE wn_none rfl ⟨(fun j u h => cell_to K_0 (hce j u h)), trivial⟩ (fun W hS => (st_loadR1 (off := i * 3) (j := 1) tA3 (hS.1) rfl (by omega) rfl)) rfl ?_
            clear hE a; intro a hE
            refine d_take (v := Value.slice a0 z0.length cap0) p4_6_6 ns4_6 (by kernel_rfl) (by kernel_rfl) (fun _ _ _ h => h) hE wn_none rfl ⟨(fun j u h => cell_to K_0 (hce j u h)), trivial⟩ (fun W hS => (st_move rfl)) rfl ?_
            clear hE a; intro a hE
            refine d_take (v := Value.int .i64 (i : Int)) p4_6_7 ns4_6 (by kernel_rfl) (by kernel_rfl) (fun _ _ _ h => h) hE wn_none rfl ⟨(fun j u h => cell_to K_0 (hce j u h)), trivial⟩ (fun W hS => (st_move rfl)) rfl ?_
            clear hE a; intro a hE
            refine d_take (v := Value.pointer (some (ea a0 (i * 3)))) p4_6_8 ns4_6 (by kernel_rfl) (by kernel_rfl) (fun _ _ _ h => h) hE wn_none rfl ⟨(fun j u h => cell_to K_0 (hce j u h)), trivial⟩ (fun W hS => (st_indexAddrR (i := i) (s := 3) Try.underlying22 tS33 hAe rfl rfl (by omega))) rfl ?_
            clear hE a; intro a hE
            refine d_take (v := Value.pointer (some (ea a0 (i * 3 + 2)))) p4_6_9 ns4_6 (by kernel_rfl) (by kernel_rfl) (fun _ _ _ h => h) hE wn_none rfl ⟨(fun j u h => cell_to K_0 (hce j u h)), trivial⟩ (fun W hS => (st_fieldAddrR (off := i * 3) (f0 := 2) (o' := i * 3 + 2) Try.underlying33 rfl tS3 rfl (by omega) rfl)) rfl ?_
            clear hE a; intro a hE
            refine d_take (v := Value.int .i64 xb) p4_6_10 ns4_6 (by kernel_rfl) (by kernel_rfl) (fun _ _ _ h => h) hE wn_none rfl ⟨(fun j u h => cell_to K_0 (hce j u h)), trivial⟩ (fun W hS => (st_loadR1 (off := i * 3) (j := 2) tA3 (hS.1) rfl (by omega) rfl)) rfl ?_
            clear hE a; intro a hE
            refine d_one (by kernel_rfl) rfl (s_call (xs := [Operand.tmp 32, Operand.tmp 37, Operand.tmp 42]) (args := [Value.pointer (some ⟨g1, 0, none⟩), Value.int .i64 xa, Value.int .i64 xb]) p4_6_11 hE wn_none rfl rfl Try.func8 cl8 (set_nil_ok g1 0 xa xb _ ⟨by decide, by decide⟩ hOKW B_g1) ?_)
            rintro e w11 ⟨gm6, es7, ck8, rfl, z9, B_g1', B_gm6, MF10, hk⟩
            have n_g1_gm6 : g1 ≠ gm6 := ne_new B_g1 z9
            have z_0_gm6 := Nat.le_trans K_0.kept.1 z9
            replace K_0 := K_0.then_ hk (fun k h => by rw [show k = g1 from h]; exact Or.inr z_0_g1)
            replace B_g1 := B_g1'
            refine ⟨_, rfl, ?_⟩
            clear hE a; intro a hE
            refine ⟨⟨(fun j u h => cell_to K_0 (hce j u h)), trivial⟩, ?_⟩
            refine d_end (by kernel_rfl) ?_
            refine x_normB ?_
            refine x_norm ?_
            refine c_regL R4_5_l ?_
            refine q0 p4_5_0 hE (st_move rfl) ?_
            clear hE a; intro a hE
            refine q0 p4_5_1 hE (st_add (z := (i : Int) + 1) rfl rfl (wr_i64 _ (by omega) (by omega))) ?_
            clear hE a; intro a hE
            refine q0 p4_5_2 hE (st_assign rfl) ?_
            clear hE a; intro a hE
            refine p_nil ?_
            refine x_norm ?_
            have hM9 : (some gm6 = none ∧ (setW [] 0 xa xb) = []) ∨ ∃ gm es ck, some gm6 = some gm ∧ w11.heap[gm]? = some (.map es ck) ∧ MapI (Value.int .i64) es ck (setW [] 0 xa xb) ∧ g1 ≠ gm ∧ w.heap.size ≤ gm := .inr ⟨gm6, es7, ck8, rfl, B_gm6, MF10, n_g1_gm6, z_0_gm6⟩
            have hfo9 := front_set (x := xa) (n := xb) hfo
            exact ⟨i + 1, by omega, (some gm6), (setW [] 0 xa xb), En.sub hE ⟨rfl, rfl, rfl, rfl, rfl, trivial⟩, hM9, hfo9, by omega, by omega, B_g1, K_0⟩
          ·
            refine c_draw (S := fun W => (∀ j u, ([Value.int .i64 xk, Value.int .i64 xa, Value.int .i64 xb])[j]? = some u → W.cell? (ea a0 (i * 3 + j)) = some u) ∧ True) rfl rfl (listed := #[false, false, false, false, false, false, false, false, false, false, false, false]) rfl ?_
            intro w12 hh hk
            replace B_g1 := kp_blk B_g1 hk (fun h => h)
            replace K_0 := K_0.then_ hk (fun _ h => h.elim)
            clear hh hk
            refine d_take (v := Value.pointer (some ⟨g1, 0, none⟩)) p4_6_0 ns4_6 (by kernel_rfl) (by kernel_rfl) (fun _ _ _ h => h) hE wn_none rfl ⟨(fun j u h => cell_to K_0 (hce j u h)), trivial⟩ (fun W hS => (st_move rfl)) rfl ?_
            clear hE a; intro a hE
            refine d_take (v := Value.slice a0 z0.length cap0) p4_6_1 ns4_6 (by kernel_rfl) (by kernel_rfl) (fun _ _ _ h => h) hE wn_none rfl ⟨(fun j u h => cell_to K_0 (hce j u h)), trivial⟩ (fun W hS => (st_move rfl)) rfl ?_
            clear hE a; intro a hE
            refine d_take (v := Value.int .i64 (i : Int)) p4_6_2 ns4_6 (by kernel_rfl) (by kernel_rfl) (fun _ _ _ h => h) hE wn_none rfl ⟨(fun j u h => cell_to K_0 (hce j u h)), trivial⟩ (fun W hS => (st_move rfl)) rfl ?_
            clear hE a; intro a hE
            refine d_take (v := Value.pointer (some (ea a0 (i * 3)))) p4_6_3 ns4_6 (by kernel_rfl) (by kernel_rfl) (fun _ _ _ h => h) hE wn_none rfl ⟨(fun j u h => cell_to K_0 (hce j u h)), trivial⟩ (fun W hS => (st_indexAddrR (i := i) (s := 3) Try.underlying22 tS33 hAe rfl rfl (by omega))) rfl ?_
            clear hE a; intro a hE
            refine d_take (v := Value.pointer (some (ea a0 (i * 3 + 1)))) p4_6_4 ns4_6 (by kernel_rfl) (by kernel_rfl) (fun _ _ _ h => h) hE wn_none rfl ⟨(fun j u h => cell_to K_0 (hce j u h)), trivial⟩ (fun W hS => (st_fieldAddrR (off := i * 3) (f0 := 1) (o' := i * 3 + 1) Try.underlying33 rfl tS3 rfl (by omega) rfl)) rfl ?_
            clear hE a; intro a hE
            refine d_take (v := Value.int .i64 xa) p4_6_5 ns4_6 (by kernel_rfl) (by kernel_rfl) (fun _ _ _ h => h) hE wn_none rfl ⟨(fun j u h => cell_to K_0 (hce j u h)), trivial⟩ (fun W hS => (st_loadR1 (off := i * 3) (j := 1) tA3 (hS.1) rfl (by omega) rfl)) rfl ?_
            clear hE a; intro a hE
            refine d_take (v := Value.slice a0 z0.length cap0) p4_6_6 ns4_6 (by kernel_rfl) (by kernel_rfl) (fun _ _ _ h => h) hE wn_none rfl ⟨(fun j u h => cell_to K_0 (hce j u h)), trivial⟩ (fun W hS => (st_move rfl)) rfl ?_
            clear hE a; intro a hE
            refine d_take (v := Value.int .i64 (i : Int)) p4_6_7 ns4_6 (by kernel_rfl) (by kernel_rfl) (fun _ _ _ h => h) hE wn_none rfl ⟨(fun j u h => cell_to K_0 (hce j u h)), trivial⟩ (fun W hS => (st_move rfl)) rfl ?_
            clear hE a; intro a hE
            refine d_take (v := Value.pointer (some (ea a0 (i * 3)))) p4_6_8 ns4_6 (by kernel_rfl) (by kernel_rfl) (fun _ _ _ h => h) hE wn_none rfl ⟨(fun j u h => cell_to K_0 (hce j u h)), trivial⟩ (fun W hS => (st_indexAddrR (i := i) (s := 3) Try.underlying22 tS33 hAe rfl rfl (by omega))) rfl ?_
            clear hE a; intro a hE
            refine d_take (v := Value.pointer (some (ea a0 (i * 3 + 2)))) p4_6_9 ns4_6 (by kernel_rfl) (by kernel_rfl) (fun _ _ _ h => h) hE wn_none rfl ⟨(fun j u h => cell_to K_0 (hce j u h)), trivial⟩ (fun W hS => (st_fieldAddrR (off := i * 3) (f0 := 2) (o' := i * 3 + 2) Try.underlying33 rfl tS3 rfl (by omega) rfl)) rfl ?_
            clear hE a; intro a hE
            refine d_take (v := Value.int .i64 xb) p4_6_10 ns4_6 (by kernel_rfl) (by kernel_rfl) (fun _ _ _ h => h) hE wn_none rfl ⟨(fun j u h => cell_to K_0 (hce j u h)), trivial⟩ (fun W hS => (st_loadR1 (off := i * 3) (j := 2) tA3 (hS.1) rfl (by omega) rfl)) rfl ?_
            clear hE a; intro a hE
            refine d_one (by kernel_rfl) rfl (s_call (xs := [Operand.tmp 32, Operand.tmp 37, Operand.tmp 42]) (args := [Value.pointer (some ⟨g1, 0, none⟩), Value.int .i64 xa, Value.int .i64 xb]) p4_6_11 hE wn_none rfl rfl Try.func8 cl8 (set_nil_no g1 0 xa xb _ ⟨by decide, by decide⟩ hOKW B_g1) ?_)
            rintro e w13 ⟨rfl, B_g1', hk⟩
            replace K_0 := K_0.then_ hk (fun k h => by rw [show k = g1 from h]; exact Or.inr z_0_g1)
            replace B_g1 := B_g1'
            refine ⟨_, rfl, ?_⟩
            clear hE a; intro a hE
            refine ⟨⟨(fun j u h => cell_to K_0 (hce j u h)), trivial⟩, ?_⟩
            refine d_end (by kernel_rfl) ?_
            refine x_normB ?_
            refine x_norm ?_
            refine c_regL R4_5_l ?_
            refine q0 p4_5_0 hE (st_move rfl) ?_
            clear hE a; intro a hE
            refine q0 p4_5_1 hE (st_add (z := (i : Int) + 1) rfl rfl (wr_i64 _ (by omega) (by omega))) ?_
            clear hE a; intro a hE
            refine q0 p4_5_2 hE (st_assign rfl) ?_
            clear hE a; intro a hE
            refine p_nil ?_
            refine x_norm ?_
            have hM9 : ((none : Option Nat) = none ∧ ([] : LW) = []) ∨ ∃ gm es ck, none = some gm ∧ w13.heap[gm]? = some (.map es ck) ∧ MapI (Value.int .i64) es ck [] ∧ g1 ≠ gm ∧ w.heap.size ≤ gm := .inl ⟨rfl, rfl⟩
            have hfo9 := front_nil (i + 1)
            exact ⟨i + 1, by omega, none, [], En.sub hE ⟨rfl, rfl, rfl, rfl, rfl, trivial⟩, hM9, hfo9, by omega, by omega, B_g1, K_0⟩
        ·
          obtain ⟨gm9, es8, ck8, rfl, B_gm9, MF8, n_g1_gm9, z_0_gm9⟩ := hM.resolve_left (fun h => hNIL h.1)
          refine c_draw (S := fun W => (∀ j u, ([Value.int .i64 xk, Value.int .i64 xa, Value.int .i64 xb])[j]? = some u → W.cell? (ea a0 (i * 3 + j)) = some u) ∧ True) rfl rfl (listed := #[false, false, false, false, false, false, false, false, false, false, false, false]) rfl ?_
          intro w14 hh hk
          replace B_g1 := kp_blk B_g1 hk (fun h => h)
          replace B_gm9 := kp_blk B_gm9 hk (fun h => h)
          replace K_0 := K_0.then_ hk (fun _ h => h.elim)
          clear hh hk
          refine d_take (v := Value.pointer (some ⟨g1, 0, none⟩)) p4_6_0 ns4_6 (by kernel_rfl) (by kernel_rfl) (fun _ _ _ h => h) hE wn_none rfl ⟨(fun j u h => cell_to K_0 (hce j u h)), trivial⟩ (fun W hS => (st_move rfl)) rfl ?_
          clear hE a; intro a hE
          refine d_take (v := Value.slice a0 z0.length cap0) p4_6_1 ns4_6 (by kernel_rfl) (by kernel_rfl) (fun _ _ _ h => h) hE wn_none rfl ⟨(fun j u h => cell_to K_0 (hce j u h)), trivial⟩ (fun W hS => (st_move rfl)) rfl ?_
          clear hE a; intro a hE
          refine d_take (v := Value.int .i64 (i : Int)) p4_6_2 ns4_6 (by kernel_rfl) (by kernel_rfl) (fun _ _ _ h => h) hE wn_none rfl ⟨(fun j u h => cell_to K_0 (hce j u h)), trivial⟩ (fun W hS => (st_move rfl)) rfl ?_
          clear hE a; intro a hE
          refine d_take (v := Value.pointer (some (ea a0 (i * 3)))) p4_6_3 ns4_6 (by kernel_rfl) (by kernel_rfl) (fun _ _ _ h => h) hE wn_none rfl ⟨(fun j u h => cell_to K_0 (hce j u h)), trivial⟩ (fun W hS => (st_indexAddrR (i := i) (s := 3) Try.underlying22 tS33 hAe rfl rfl (by omega))) rfl ?_
          clear hE a; intro a hE
          refine d_take (v := Value.pointer (some (ea a0 (i * 3 + 1)))) p4_6_4 ns4_6 (by kernel_rfl) (by kernel_rfl) (fun _ _ _ h => h) hE wn_none rfl ⟨(fun j u h => cell_to K_0 (hce j u h)), trivial⟩ (fun W hS => (st_fieldAddrR (off := i * 3) (f0 := 1) (o' := i * 3 + 1) Try.underlying33 rfl tS3 rfl (by omega) rfl)) rfl ?_
          clear hE a; intro a hE
          refine d_take (v := Value.int .i64 xa) p4_6_5 ns4_6 (by kernel_rfl) (by kernel_rfl) (fun _ _ _ h => h) hE wn_none rfl ⟨(fun j u h => cell_to K_0 (hce j u h)), trivial⟩ (fun W hS => (st_loadR1 (off := i * 3) (j := 1) tA3 (hS.1) rfl (by omega) rfl)) rfl ?_
          clear hE a; intro a hE
          refine d_take (v := Value.slice a0 z0.length cap0) p4_6_6 ns4_6 (by kernel_rfl) (by kernel_rfl) (fun _ _ _ h => h) hE wn_none rfl ⟨(fun j u h => cell_to K_0 (hce j u h)), trivial⟩ (fun W hS => (st_move rfl)) rfl ?_
          clear hE a; intro a hE
          refine d_take (v := Value.int .i64 (i : Int)) p4_6_7 ns4_6 (by kernel_rfl) (by kernel_rfl) (fun _ _ _ h => h) hE wn_none rfl ⟨(fun j u h => cell_to K_0 (hce j u h)), trivial⟩ (fun W hS => (st_move rfl)) rfl ?_
          clear hE a; intro a hE
          refine d_take (v := Value.pointer (some (ea a0 (i * 3)))) p4_6_8 ns4_6 (by kernel_rfl) (by kernel_rfl) (fun _ _ _ h => h) hE wn_none rfl ⟨(fun j u h => cell_to K_0 (hce j u h)), trivial⟩ (fun W hS => (st_indexAddrR (i := i) (s := 3) Try.underlying22 tS33 hAe rfl rfl (by omega))) rfl ?_
          clear hE a; intro a hE
          refine d_take (v := Value.pointer (some (ea a0 (i * 3 + 2)))) p4_6_9 ns4_6 (by kernel_rfl) (by kernel_rfl) (fun _ _ _ h => h) hE wn_none rfl ⟨(fun j u h => cell_to K_0 (hce j u h)), trivial⟩ (fun W hS => (st_fieldAddrR (off := i * 3) (f0 := 2) (o' := i * 3 + 2) Try.underlying33 rfl tS3 rfl (by omega) rfl)) rfl ?_
          clear hE a; intro a hE
          refine d_take (v := Value.int .i64 xb) p4_6_10 ns4_6 (by kernel_rfl) (by kernel_rfl) (fun _ _ _ h => h) hE wn_none rfl ⟨(fun j u h => cell_to K_0 (hce j u h)), trivial⟩ (fun W hS => (st_loadR1 (off := i * 3) (j := 2) tA3 (hS.1) rfl (by omega) rfl)) rfl ?_
          clear hE a; intro a hE
          refine d_one (by kernel_rfl) rfl (s_call (xs := [Operand.tmp 32, Operand.tmp 37, Operand.tmp 42]) (args := [Value.pointer (some ⟨g1, 0, none⟩), Value.int .i64 xa, Value.int .i64 xb]) p4_6_11 hE wn_none rfl rfl Try.func8 cl8 (set_map g1 gm9 ck8 es8 l9 0 xa xb _ ⟨by decide, by decide⟩ B_g1 B_gm9 MF8 n_g1_gm9) ?_)
          rintro e w16 ⟨esm15, ckm15, rfl, MFm15, B_gm9', hk⟩
          replace B_g1 := kp_blk B_g1 hk n_g1_gm9
          replace K_0 := K_0.then_ hk (fun k h => by rw [show k = gm9 from h]; exact Or.inr z_0_gm9)
          replace B_gm9 := B_gm9'
          refine ⟨_, rfl, ?_⟩
          clear hE a; intro a hE
          refine ⟨⟨(fun j u h => cell_to K_0 (hce j u h)), trivial⟩, ?_⟩
          refine d_end (by kernel_rfl) ?_
          refine x_normB ?_
          refine x_norm ?_
          refine c_regL R4_5_l ?_
          refine q0 p4_5_0 hE (st_move rfl) ?_
          clear hE a; intro a hE
          refine q0 p4_5_1 hE (st_add (z := (i : Int) + 1) rfl rfl (wr_i64 _ (by omega) (by omega))) ?_
          clear hE a; intro a hE
          refine q0 p4_5_2 hE (st_assign rfl) ?_
          clear hE a; intro a hE
          refine p_nil ?_
          refine x_norm ?_
          have hM9 : (some gm9 = none ∧ (setW l9 0 xa xb) = []) ∨ ∃ gm es ck, some gm9 = some gm ∧ w16.heap[gm]? = some (.map es ck) ∧ MapI (Value.int .i64) es ck (setW l9 0 xa xb) ∧ g1 ≠ gm ∧ w.heap.size ≤ gm := .inr ⟨gm9, esm15, ckm15, rfl, B_gm9, MFm15, n_g1_gm9, z_0_gm9⟩
          have hfo9 := front_set (x := xa) (n := xb) hfo
          exact ⟨i + 1, by omega, (some gm9), (setW l9 0 xa xb), En.sub hE ⟨rfl, rfl, rfl, rfl, rfl, trivial⟩, hM9, hfo9, by omega, by omega, B_g1, K_0⟩
      ·
        refine c_reg R4_4_l ?_
        refine q0 p4_4_0 hE (st_move rfl) ?_
        clear hE a; intro a hE
        refine q0 p4_4_1 hE (st_move rfl) ?_
        clear hE a; intro a hE
        refine q0 p4_4_2 hE (st_len Try.underlying22 rfl) ?_
        clear hE a; intro a hE
        refine q0 p4_4_3 hE (st_lss (b := true) rfl rfl (decide_eq_true hI1)) ?_
        clear hE a; intro a hE
        refine q0 p4_4_4 hE (st_move rfl) ?_
        clear hE a; intro a hE
        refine p_cons (s_still p4_4_5 hE (wn_some g4_4_4 rfl rfl) rfl (st_move rfl) ?_)
        clear hE a; intro a hE
        refine p_cons (s_still p4_4_6 hE (wn_some g4_4_4 rfl rfl) rfl (st_lss (b := false) rfl rfl (decide_eq_false hI2)) ?_)
        clear hE a; intro a hE
        refine q0 p4_4_7 hE (st_pick rfl rfl) ?_
        clear hE a; intro a hE
        refine p_nil ?_
        refine x_norm ?_
        refine c_cond (t := false) hE rfl ?_
        refine wp_exit ?_
        refine x_exit ?_
        refine x_exit ?_
        refine x_in ?_
        refine x_norm ?_
        have hE2 : En 107 a [(1, Value.int .i64 (nn : Int)), (5, Value.pointer (some ⟨g1, 0, none⟩))] := En.sub hE ⟨rfl, rfl, trivial⟩
        exact runs7 w w4 g1 mb l9 B_g1 hM ⟨by have := hfo.1; omega, hfo.2⟩ z_0_g1 K_0 nn hnn (by rw [if_neg (by omega)]) ⟨by omega, by omega⟩ ⟨by decide, by decide⟩ (fun W' hk => ⟨rfl, hk.to (Nat.le_refl _) (fun _ h => h.elim)⟩) _ hE2
    ·
      refine c_reg R4_4_l ?_
      refine q0 p4_4_0 hE (st_move rfl) ?_
      clear hE a; intro a hE
      refine q0 p4_4_1 hE (st_move rfl) ?_
      clear hE a; intro a hE
      refine q0 p4_4_2 hE (st_len Try.underlying22 rfl) ?_
      clear hE a; intro a hE
      refine q0 p4_4_3 hE (st_lss (b := false) rfl rfl (decide_eq_false hI1)) ?_
      clear hE a; intro a hE
      refine q0 p4_4_4 hE (st_move rfl) ?_
      clear hE a; intro a hE
      refine p_cons (s_skip p4_4_5 hE (wn_some g4_4_4 rfl rfl) rfl ?_)
      clear hE a; intro a hE
      refine p_cons (s_skip p4_4_6 hE (wn_some g4_4_4 rfl rfl) rfl ?_)
      clear hE a; intro a hE
      refine q0 p4_4_7 hE (st_pick rfl rfl) ?_
      clear hE a; intro a hE
      refine p_nil ?_
      refine x_norm ?_
      refine c_cond (t := false) hE rfl ?_
      refine wp_exit ?_
      refine x_exit ?_
      refine x_exit ?_
      refine x_in ?_
      refine x_norm ?_
      have hE2 : En 107 a [(1, Value.int .i64 (nn : Int)), (5, Value.pointer (some ⟨g1, 0, none⟩))] := En.sub hE ⟨rfl, rfl, trivial⟩
      exact runs7 w w4 g1 mb l9 B_g1 hM ⟨by have := hfo.1; omega, hfo.2⟩ z_0_g1 K_0 nn hnn (by rw [if_neg (by omega)]) ⟨by omega, by omega⟩ ⟨by decide, by decide⟩ (fun W' hk => ⟨rfl, hk.to (Nat.le_refl _) (fun _ h => h.elim)⟩) _ hE2
end Go.Proofs.Ytlmjbmeigclihaa.Wr
