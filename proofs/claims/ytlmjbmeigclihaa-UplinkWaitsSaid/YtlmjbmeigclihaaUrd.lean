/- The document's waiting: put, Send, Due. -/
import Derived.Test.YtlmjbmeigclihaaUpr
set_option maxRecDepth 100000
set_option linter.unusedVariables false
set_option linter.unusedSimpArgs false
namespace Go.Proofs.Ytlmjbmeigclihaa.Ud
open Go.RowKit Go.Proofs.YtlmjbmeigclihaaW.PrintWords Go.Proofs.Ytlmjbmeigclihaa.Ds Go.Proofs.Ytlmjbmeigclihaa.Up Go.Proofs.Ytlmjbmeigclihaa.Ur
open Go.Proofs.Ytlmjbmeigclihaa.Pk (Kp)
open Go.Proofs.Ytlmjbmeigclihaa.Mi (st_eqlP st_neqP x_normS x_retS x_exitS MapI getI putI delI)
theorem R44_0_l : List.range (regOf Try.f44 0).size = [0] := by kernel_rfl
theorem R44_1_l : List.range (regOf Try.f44 1).size = [0, 1, 2, 3] := by kernel_rfl
theorem R44_2_l : List.range (regOf Try.f44 2).size = [0] := by kernel_rfl
theorem R44_3_l : List.range (regOf Try.f44 3).size = [0, 1, 2, 3, 4, 5, 6, 7, 8, 9, 10, 11, 12, 13, 14, 15, 16, 17, 18, 19] := by kernel_rfl
theorem R44_4_l : List.range (regOf Try.f44 4).size = [0, 1, 2] := by kernel_rfl
theorem R44_5_l : List.range (regOf Try.f44 5).size = [0, 1, 2, 3, 4, 5, 6, 7, 8, 9, 10, 11, 12, 13, 14, 15, 16, 17, 18, 19, 20, 21] := by kernel_rfl
theorem body44 : Try.f44.body = some (.seq (.region 0 (regOf Try.f44 0) false) (.seq (.region 1 (regOf Try.f44 1) false) (.seq (.region 2 (regOf Try.f44 2) false) (.seq (.block 0 (.loop (.seq (.seq (.region 3 (regOf Try.f44 3) true) (.cond (Operand.tmp 28) (.skip) (.exit 0))) (.block 1 (.region 4 (regOf Try.f44 4) false))))) (.region 5 (regOf Try.f44 5) true))))) := by kernel_rfl
theorem p44_0_0 : pj (regOf Try.f44 0) 0 = some (some 3, .box 70 (.tmp 1), 0, none) := by kernel_rfl
theorem p44_1_0 : pj (regOf Try.f44 1) 0 = some (some 5, .move (.tmp 0), 63, none) := by kernel_rfl
theorem p44_1_1 : pj (regOf Try.f44 1) 1 = some (some 6, .fieldAddr 70 (.tmp 3) 0, 0, none) := by kernel_rfl
theorem tS3 : (Try.prog.info? 3).map (·.size) = some 1 := by kernel_rfl
theorem p44_1_2 : pj (regOf Try.f44 1) 2 = some (some 7, .load 3 (.tmp 6), 3, none) := by kernel_rfl
theorem tA3 : (Try.prog.underlying 3).map aggD = some false := by kernel_rfl
theorem p44_1_3 : pj (regOf Try.f44 1) 3 = some (some 8, .call { callee := .value (.func 29), args := #[.tmp 5, .tmp 7], argTypes := #[63, 3] }, 4, none) := by kernel_rfl
theorem cl29 : callable Try.f29 = true := by kernel_rfl
theorem p44_2_0 : pj (regOf Try.f44 2) 0 = some (some 4, .assign (.const (.int .i64 0)), 3, none) := by kernel_rfl
theorem ns44_3 : Region.noSelect (regOf Try.f44 3) = true := by kernel_rfl
theorem p44_3_0 : pj (regOf Try.f44 3) 0 = some (some 9, .move (.tmp 4), 3, none) := by kernel_rfl
theorem p44_3_1 : pj (regOf Try.f44 3) 1 = some (some 10, .move (.tmp 0), 63, none) := by kernel_rfl
theorem p44_3_2 : pj (regOf Try.f44 3) 2 = some (some 11, .nilCheck (.tmp 10), 0, none) := by kernel_rfl
theorem p44_3_3 : pj (regOf Try.f44 3) 3 = some (some 12, .fieldAddr 66 (.tmp 11) 2, 0, none) := by kernel_rfl
theorem tS64 : (Try.prog.info? 64).map (·.size) = some 1 := by kernel_rfl
theorem p44_3_4 : pj (regOf Try.f44 3) 4 = some (some 13, .load 64 (.tmp 12), 64, none) := by kernel_rfl
theorem tA64 : (Try.prog.underlying 64).map aggD = some false := by kernel_rfl
theorem p44_3_5 : pj (regOf Try.f44 3) 5 = some (some 14, .call { callee := .builtin .len, args := #[.tmp 13], argTypes := #[64] }, 3, none) := by kernel_rfl
theorem p44_3_6 : pj (regOf Try.f44 3) 6 = some (some 15, .binOp .lss 3 (.tmp 9) (.tmp 14) 3, 4, none) := by kernel_rfl
theorem p44_3_7 : pj (regOf Try.f44 3) 7 = some (some 16, .move (.tmp 15), 4, none) := by kernel_rfl
theorem g44_3_7 : dstOf (regOf Try.f44 3) 7 = some 16 := by kernel_rfl
theorem p44_3_8 : pj (regOf Try.f44 3) 8 = some (some 17, .move (.tmp 0), 63, some (7, true)) := by kernel_rfl
theorem p44_3_9 : pj (regOf Try.f44 3) 9 = some (some 18, .nilCheck (.tmp 17), 0, some (7, true)) := by kernel_rfl
theorem p44_3_10 : pj (regOf Try.f44 3) 10 = some (some 19, .fieldAddr 66 (.tmp 18) 2, 0, some (7, true)) := by kernel_rfl
theorem p44_3_11 : pj (regOf Try.f44 3) 11 = some (some 20, .load 64 (.tmp 19), 64, some (7, true)) := by kernel_rfl
theorem p44_3_12 : pj (regOf Try.f44 3) 12 = some (some 21, .move (.tmp 4), 3, some (7, true)) := by kernel_rfl
theorem p44_3_13 : pj (regOf Try.f44 3) 13 = some (some 22, .indexAddr 64 (.tmp 20) (.tmp 21), 0, some (7, true)) := by kernel_rfl
theorem tS70 : (Try.prog.info? 70).map (·.size) = some 3 := by kernel_rfl
theorem p44_3_14 : pj (regOf Try.f44 3) 14 = some (some 23, .fieldAddr 70 (.tmp 22) 0, 0, some (7, true)) := by kernel_rfl
theorem p44_3_15 : pj (regOf Try.f44 3) 15 = some (some 24, .load 3 (.tmp 23), 3, some (7, true)) := by kernel_rfl
theorem p44_3_16 : pj (regOf Try.f44 3) 16 = some (some 25, .fieldAddr 70 (.tmp 3) 0, 0, some (7, true)) := by kernel_rfl
theorem p44_3_17 : pj (regOf Try.f44 3) 17 = some (some 26, .load 3 (.tmp 25), 3, some (7, true)) := by kernel_rfl
theorem p44_3_18 : pj (regOf Try.f44 3) 18 = some (some 27, .binOp .lss 3 (.tmp 24) (.tmp 26) 3, 4, some (7, true)) := by kernel_rfl
theorem p44_3_19 : pj (regOf Try.f44 3) 19 = some (some 28, .pick (.tmp 16) (.tmp 27) (.const (.bool false)), 4, none) := by kernel_rfl
theorem p44_4_0 : pj (regOf Try.f44 4) 0 = some (some 29, .move (.tmp 4), 3, none) := by kernel_rfl
theorem p44_4_1 : pj (regOf Try.f44 4) 1 = some (some 30, .binOp .add 3 (.tmp 29) (.const (.int .i64 1)) 3, 3, none) := by kernel_rfl
theorem p44_4_2 : pj (regOf Try.f44 4) 2 = some (some 4, .assign (.tmp 30), 3, none) := by kernel_rfl
set_option maxHeartbeats 4000000 in
theorem put_any (gd : Nat) (A : Option Addr) (c : Nat) (L : List (Int × Int × Int)) (wt tr : Int) (o : Int × Int × Int) (w : World) (hd : w.heap[gd]? = some (.cells #[.int .i64 wt, .int .i64 tr, .slice A L.length c] 66 (0, 0))) (hR : Rv.RdV w A L.length 3 (flO L)) (hcA : L.length ≤ c ∧ (A = none → c = 0)) (hll : L.length ≤ 1000) (hnd : ¬ OB A gd) : Calls Try.prog 44 #[.pointer (some ⟨gd, 0, none⟩), .agg #[.int .i64 o.1, .int .i64 o.2.1, .int .i64 o.2.2]] w fun e w' => ∃ A' c', e = .returned (.tuple #[]) ∧ w'.heap[gd]? = some (.cells #[.int .i64 wt, .int .i64 tr, .slice A' (insL (rmL L o.1) o).length c'] 66 (0, 0)) ∧ Rv.RdV w' A' (insL (rmL L o.1) o).length 3 (flO (insL (rmL L o.1) o)) ∧ ((insL (rmL L o.1) o).length ≤ c' ∧ (A' = none → c' = 0)) ∧ (∀ k, OB A' k → OB A k ∨ w.heap.size ≤ k) ∧ Kp w w' (fun k => k = gd) := by
  have K_0 := Kp.refl w (fun k => k = gd)
  have B_gd := hd
  have O_L := hR
  have Nb_L_gd := hnd
  refine enter (args := [Value.pointer (some ⟨gd, 0, none⟩), Value.agg #[Value.int .i64 o.1, Value.int .i64 o.2.1, Value.int .i64 o.2.2]]) (n := 52) Try.func44 body44 rfl rfl rfl ?_
  intro a hE
  refine c_reg R44_0_l ?_
  refine p_cons (s_box p44_0_0 hE wn_none rfl rfl ?_)
  clear hE a; intro g1 w2 z3 B_g1 hk a hE
  replace B_g1 : w2.heap[g1]? = some (.cells #[Value.int .i64 o.1, Value.int .i64 o.2.1, Value.int .i64 o.2.2] 70 (0, 0)) := B_g1
  have n_gd_g1 : gd ≠ g1 := ne_new B_gd z3
  have z_0_g1 := Nat.le_trans K_0.kept.1 z3
  have Nb_L_g1 : ¬ OB A g1 := fun h => by have := (Rv.rdv_ob O_L h).2; omega
  replace B_gd := kp_blk B_gd hk (fun h => h)
  replace O_L := Rv.rdv_keep O_L hk (fun _ _ h => h)
  replace K_0 := K_0.then_ hk (fun _ h => h.elim)
  clear hk
  refine p_nil ?_
  refine x_norm ?_
  refine c_reg R44_1_l ?_
  refine q0 p44_1_0 hE (st_move rfl) ?_
  clear hE a; intro a hE
  refine q0 p44_1_1 hE (st_fieldAddr Try.underlying70 rfl tS3 rfl rfl) ?_
  clear hE a; intro a hE
  refine q0 p44_1_2 hE (st_load1 tA3 rfl ((blk_cell B_g1 0).trans rfl)) ?_
  clear hE a; intro a hE
  have hnb_gd := blk_lt B_gd
  have hnb_g1 := blk_lt B_g1
  have hkz9 := K_0.kept.1
  refine p_cons (s_call (xs := [Operand.tmp 5, Operand.tmp 7]) (args := [Value.pointer (some ⟨gd, 0, none⟩), Value.int .i64 o.1]) p44_1_3 hE wn_none rfl rfl Try.func29 cl29 (rack_any gd A c L wt tr o.1 _ B_gd O_L hcA hll Nb_L_gd) ?_)
  rintro e w6 ⟨AM4, cM5, rfl, B_gd', O_M, hc_M, hg9, hk⟩
  replace B_g1 := kp_blk B_g1 hk (Ne.symm n_gd_g1)
  replace O_L := Rv.rdv_keep O_L hk (fun k hk2 h2 => Nb_L_gd (by rw [show k = gd from h2] at hk2; exact hk2))
  replace K_0 := K_0.then_ hk (fun k h => by rw [show k = gd from h]; exact Or.inl rfl)
  replace B_gd := B_gd'
  have Nb_M_gd : ¬ OB AM4 gd := fun h => (hg9 _ h).elim Nb_L_gd (fun h2 => by have := hnb_gd; omega)
  have Nb_M_g1 : ¬ OB AM4 g1 := fun h => (hg9 _ h).elim Nb_L_g1 (fun h2 => by have := hnb_g1; omega)
  refine ⟨_, rfl, ?_⟩
  clear hE a; intro a hE
  refine p_nil ?_
  refine x_norm ?_
  refine c_reg R44_2_l ?_
  refine q0 p44_2_0 hE (st_assign rfl) ?_
  clear hE a; intro a hE
  refine p_nil ?_
  refine x_norm ?_
  refine wp_seq ?_
  refine wp_block ?_
  have hrl := rm_len L o.1
  obtain ⟨M, hM⟩ : ∃ M, rmL L o.1 = M := ⟨_, rfl⟩
  rw [hM] at B_gd O_M hc_M hrl
  refine c_loop (α := Nat) (fun i a W => En 52 a [(0, Value.pointer (some ⟨gd, 0, none⟩)), (1, Value.agg #[Value.int .i64 o.1, Value.int .i64 o.2.1, Value.int .i64 o.2.2]), (3, Value.pointer (some ⟨g1, 0, none⟩)), (4, Value.int .i64 (i : Int))] ∧ i ≤ M.length ∧ (∀ j p, j < i → M[j]? = some p → p.1 < o.1) ∧ W.heap[gd]? = some (.cells #[Value.int .i64 wt, Value.int .i64 tr, Value.slice AM4 M.length cM5] 66 (0, 0)) ∧ W.heap[g1]? = some (.cells #[Value.int .i64 o.1, Value.int .i64 o.2.1, Value.int .i64 o.2.2] 70 (0, 0)) ∧ Rv.RdV W AM4 M.length 3 (flO M) ∧ ¬ OB AM4 gd ∧ ¬ OB AM4 g1 ∧ Kp w W (fun k => k = gd)) (fun i => M.length - i) (0) ?_ ?_
  ·
    exact ⟨En.sub hE ⟨rfl, rfl, rfl, rfl, trivial⟩, Nat.zero_le _, (fun j p h => absurd h (Nat.not_lt_zero _)), B_gd, B_g1, O_M, Nb_M_gd, Nb_M_g1, K_0⟩
  ·
    clear hE a
    rintro i a w7 ⟨hE, hi9, hlow, B_gd, B_g1, O_M, Nb_M_gd, Nb_M_g1, K_0⟩
    refine wp_seq ?_
    rcases Decidable.em ((i : Int) < (M.length : Int)) with hK1 | hK1
    ·
      obtain ⟨p, hx⟩ : ∃ o, M[i]? = some o := ⟨_, List.getElem?_eq_getElem (by omega)⟩
      obtain ⟨hAep, hCep⟩ := Rv.rdv_elem (fl := fl3) O_M (by decide) (fun _ => rfl) hx
      rcases Decidable.em (p.1 < o.1) with hK2 | hK2
      ·
        refine c_drawS (S := fun W => W.heap[gd]? = some (.cells #[Value.int .i64 wt, Value.int .i64 tr, Value.slice AM4 M.length cM5] 66 (0, 0)) ∧ W.heap[g1]? = some (.cells #[Value.int .i64 o.1, Value.int .i64 o.2.1, Value.int .i64 o.2.2] 70 (0, 0)) ∧ (∀ j u, ([Value.int .i64 p.1, Value.int .i64 p.2.1, Value.int .i64 p.2.2])[j]? = some u → W.cell? (ea AM4 (i * 3 + j)) = some u) ∧ True) rfl rfl (listed := #[false, false, false, false, false, false, false, false, false, false, false, false, false, false, false, false, false, false, false, false]) rfl ?_
        intro w8 hh hk
        replace B_gd := kp_blk B_gd hk (fun h => h)
        replace B_g1 := kp_blk B_g1 hk (fun h => h)
        replace O_M := Rv.rdv_keep O_M hk (fun _ _ h => h)
        replace K_0 := K_0.then_ hk (fun _ h => h.elim)
        clear hh hk
        refine d_take (v := Value.int .i64 (i : Int)) p44_3_0 ns44_3 (by kernel_rfl) (by kernel_rfl) (fun _ _ _ h => h) hE wn_none rfl ⟨B_gd, B_g1, (Rv.rdv_elem (fl := fl3) O_M (by decide) (fun _ => rfl) hx).2, trivial⟩ (fun W hS => (st_move rfl)) rfl ?_
        clear hE a; intro a hE
        refine d_take (v := Value.pointer (some ⟨gd, 0, none⟩)) p44_3_1 ns44_3 (by kernel_rfl) (by kernel_rfl) (fun _ _ _ h => h) hE wn_none rfl ⟨B_gd, B_g1, (Rv.rdv_elem (fl := fl3) O_M (by decide) (fun _ => rfl) hx).2, trivial⟩ (fun W hS => (st_move rfl)) rfl ?_
        clear hE a; intro a hE
        refine d_take (v := Value.pointer (some ⟨gd, 0, none⟩)) p44_3_2 ns44_3 (by kernel_rfl) (by kernel_rfl) (fun _ _ _ h => h) hE wn_none rfl ⟨B_gd, B_g1, (Rv.rdv_elem (fl := fl3) O_M (by decide) (fun _ => rfl) hx).2, trivial⟩ (fun W hS => (st_nil rfl)) rfl ?_
        clear hE a; intro a hE
        refine d_take (v := Value.pointer (some ⟨gd, 2, none⟩)) p44_3_3 ns44_3 (by kernel_rfl) (by kernel_rfl) (fun _ _ _ h => h) hE wn_none rfl ⟨B_gd, B_g1, (Rv.rdv_elem (fl := fl3) O_M (by decide) (fun _ => rfl) hx).2, trivial⟩ (fun W hS => (st_fieldAddr Try.underlying66 rfl tS64 rfl rfl)) rfl ?_
        clear hE a; intro a hE
        refine d_take (v := Value.slice AM4 M.length cM5) p44_3_4 ns44_3 (by kernel_rfl) (by kernel_rfl) (fun _ _ _ h => h) hE wn_none rfl ⟨B_gd, B_g1, (Rv.rdv_elem (fl := fl3) O_M (by decide) (fun _ => rfl) hx).2, trivial⟩ (fun W hS => (st_load1 tA64 rfl ((blk_cell hS.1 2).trans rfl))) rfl ?_
        clear hE a; intro a hE
        refine d_take (v := Value.int .i64 (M.length : Int)) p44_3_5 ns44_3 (by kernel_rfl) (by kernel_rfl) (fun _ _ _ h => h) hE wn_none rfl ⟨B_gd, B_g1, (Rv.rdv_elem (fl := fl3) O_M (by decide) (fun _ => rfl) hx).2, trivial⟩ (fun W hS => (st_len Try.underlying64 rfl)) rfl ?_
        clear hE a; intro a hE
        refine d_take (v := Value.bool true) p44_3_6 ns44_3 (by kernel_rfl) (by kernel_rfl) (fun _ _ _ h => h) hE wn_none rfl ⟨B_gd, B_g1, (Rv.rdv_elem (fl := fl3) O_M (by decide) (fun _ => rfl) hx).2, trivial⟩ (fun W hS => (st_lss (b := true) rfl rfl (decide_eq_true hK1))) rfl ?_
        clear hE a; intro a hE
        refine d_take (v := Value.bool true) p44_3_7 ns44_3 (by kernel_rfl) (by kernel_rfl) (fun _ _ _ h => h) hE wn_none rfl ⟨B_gd, B_g1, (Rv.rdv_elem (fl := fl3) O_M (by decide) (fun _ => rfl) hx).2, trivial⟩ (fun W hS => (st_move rfl)) rfl ?_
        clear hE a; intro a hE
        refine d_take (v := Value.pointer (some ⟨gd, 0, none⟩)) p44_3_8 ns44_3 (by kernel_rfl) (by kernel_rfl) (fun _ _ _ h => h) hE (wn_some g44_3_7 rfl rfl) rfl ⟨B_gd, B_g1, (Rv.rdv_elem (fl := fl3) O_M (by decide) (fun _ => rfl) hx).2, trivial⟩ (fun W hS => (st_move rfl)) rfl ?_
        clear hE a; intro a hE
        refine d_take (v := Value.pointer (some ⟨gd, 0, none⟩)) p44_3_9 ns44_3 (by kernel_rfl) (by kernel_rfl) (fun _ _ _ h => h) hE (wn_some g44_3_7 rfl rfl) rfl ⟨B_gd, B_g1, (Rv.rdv_elem (fl := fl3) O_M (by decide) (fun _ => rfl) hx).2, trivial⟩ (fun W hS => (st_nil rfl)) rfl ?_
        clear hE a; intro a hE
        refine d_take (v := Value.pointer (some ⟨gd, 2, none⟩)) p44_3_10 ns44_3 (by kernel_rfl) (by kernel_rfl) (fun _ _ _ h => h) hE (wn_some g44_3_7 rfl rfl) rfl ⟨B_gd, B_g1, (Rv.rdv_elem (fl := fl3) O_M (by decide) (fun _ => rfl) hx).2, trivial⟩ (fun W hS => (st_fieldAddr Try.underlying66 rfl tS64 rfl rfl)) rfl ?_
        clear hE a; intro a hE
        refine d_take (v := Value.slice AM4 M.length cM5) p44_3_11 ns44_3 (by kernel_rfl) (by kernel_rfl) (fun _ _ _ h => h) hE (wn_some g44_3_7 rfl rfl) rfl ⟨B_gd, B_g1, (Rv.rdv_elem (fl := fl3) O_M (by decide) (fun _ => rfl) hx).2, trivial⟩ (fun W hS => (st_load1 tA64 rfl ((blk_cell hS.1 2).trans rfl))) rfl ?_
        clear hE a; intro a hE
        refine d_take (v := Value.int .i64 (i : Int)) p44_3_12 ns44_3 (by kernel_rfl) (by kernel_rfl) (fun _ _ _ h => h) hE (wn_some g44_3_7 rfl rfl) rfl ⟨B_gd, B_g1, (Rv.rdv_elem (fl := fl3) O_M (by decide) (fun _ => rfl) hx).2, trivial⟩ (fun W hS => (st_move rfl)) rfl ?_
        clear hE a; intro a hE
        refine d_take (v := Value.pointer (some (ea AM4 (i * 3)))) p44_3_13 ns44_3 (by kernel_rfl) (by kernel_rfl) (fun _ _ _ h => h) hE (wn_some g44_3_7 rfl rfl) rfl ⟨B_gd, B_g1, (Rv.rdv_elem (fl := fl3) O_M (by decide) (fun _ => rfl) hx).2, trivial⟩ (fun W hS => (st_indexAddrR (i := i) (s := 3) Try.underlying64 tS70 hAep rfl rfl (by omega))) rfl ?_
        clear hE a; intro a hE
        refine d_take (v := Value.pointer (some (ea AM4 (i * 3)))) p44_3_14 ns44_3 (by kernel_rfl) (by kernel_rfl) (fun _ _ _ h => h) hE (wn_some g44_3_7 rfl rfl) rfl ⟨B_gd, B_g1, (Rv.rdv_elem (fl := fl3) O_M (by decide) (fun _ => rfl) hx).2, trivial⟩ (fun W hS => (st_fieldAddrR (off := i * 3) (f0 := 0) (o' := i * 3) Try.underlying70 rfl tS3 rfl (by omega) rfl)) rfl ?_
        clear hE a; intro a hE
        refine d_take (v := Value.int .i64 p.1) p44_3_15 ns44_3 (by kernel_rfl) (by kernel_rfl) (fun _ _ _ h => h) hE (wn_some g44_3_7 rfl rfl) rfl ⟨B_gd, B_g1, (Rv.rdv_elem (fl := fl3) O_M (by decide) (fun _ => rfl) hx).2, trivial⟩ (fun W hS => (st_loadR1 (off := i * 3) (j := 0) tA3 (hS.2.2.1) rfl (by omega) rfl)) rfl ?_
        clear hE a; intro a hE
        refine d_take (v := Value.pointer (some ⟨g1, 0, none⟩)) p44_3_16 ns44_3 (by kernel_rfl) (by kernel_rfl) (fun _ _ _ h => h) hE (wn_some g44_3_7 rfl rfl) rfl ⟨B_gd, B_g1, (Rv.rdv_elem (fl := fl3) O_M (by decide) (fun _ => rfl) hx).2, trivial⟩ (fun W hS => (st_fieldAddr Try.underlying70 rfl tS3 rfl rfl)) rfl ?_
        clear hE a; intro a hE
        refine d_take (v := Value.int .i64 o.1) p44_3_17 ns44_3 (by kernel_rfl) (by kernel_rfl) (fun _ _ _ h => h) hE (wn_some g44_3_7 rfl rfl) rfl ⟨B_gd, B_g1, (Rv.rdv_elem (fl := fl3) O_M (by decide) (fun _ => rfl) hx).2, trivial⟩ (fun W hS => (st_load1 tA3 rfl ((blk_cell hS.2.1 0).trans rfl))) rfl ?_
        clear hE a; intro a hE
        refine d_take (v := Value.bool true) p44_3_18 ns44_3 (by kernel_rfl) (by kernel_rfl) (fun _ _ _ h => h) hE (wn_some g44_3_7 rfl rfl) rfl ⟨B_gd, B_g1, (Rv.rdv_elem (fl := fl3) O_M (by decide) (fun _ => rfl) hx).2, trivial⟩ (fun W hS => (st_lss (b := true) rfl rfl (decide_eq_true hK2))) rfl ?_
        clear hE a; intro a hE
        refine d_take (v := Value.bool true) p44_3_19 ns44_3 (by kernel_rfl) (by kernel_rfl) (fun _ _ _ h => h) hE wn_none rfl ⟨B_gd, B_g1, (Rv.rdv_elem (fl := fl3) O_M (by decide) (fun _ => rfl) hx).2, trivial⟩ (fun W hS => (st_pick rfl rfl)) rfl ?_
        clear hE a; intro a hE
        refine d_end (by kernel_rfl) ?_
        refine x_norm ?_
        refine c_cond (t := true) hE rfl ?_
        refine wp_skip ?_
        refine x_norm ?_
        refine wp_block ?_
        refine c_regL R44_4_l ?_
        refine q0 p44_4_0 hE (st_move rfl) ?_
        clear hE a; intro a hE
        refine q0 p44_4_1 hE (st_add (z := (i : Int) + 1) rfl rfl (wr_i64 _ (by omega) (by omega))) ?_
        clear hE a; intro a hE
        refine q0 p44_4_2 hE (st_assign rfl) ?_
        clear hE a; intro a hE
        refine p_nil ?_
        refine x_normB ?_
        refine x_norm ?_
        have hlow9 : ∀ j p, j < i + 1 → M[j]? = some p → p.1 < o.1 := fun j q hj hq => by
          rcases Nat.lt_or_ge j i with z | z
          · exact hlow j q z hq
          · obtain rfl : j = i := by omega
            rw [hx] at hq
            injection hq with hq
            rw [← hq]; exact hK2
        exact ⟨i + 1, by omega, En.sub hE ⟨rfl, rfl, rfl, rfl, trivial⟩, by omega, hlow9, B_gd, B_g1, O_M, Nb_M_gd, Nb_M_g1, K_0⟩
      ·
        refine c_drawS (S := fun W => W.heap[gd]? = some (.cells #[Value.int .i64 wt, Value.int .i64 tr, Value.slice AM4 M.length cM5] 66 (0, 0)) ∧ W.heap[g1]? = some (.cells #[Value.int .i64 o.1, Value.int .i64 o.2.1, Value.int .i64 o.2.2] 70 (0, 0)) ∧ (∀ j u, ([Value.int .i64 p.1, Value.int .i64 p.2.1, Value.int .i64 p.2.2])[j]? = some u → W.cell? (ea AM4 (i * 3 + j)) = some u) ∧ True) rfl rfl (listed := #[false, false, false, false, false, false, false, false, false, false, false, false, false, false, false, false, false, false, false, false]) rfl ?_
        intro w9 hh hk
        replace B_gd := kp_blk B_gd hk (fun h => h)
        replace B_g1 := kp_blk B_g1 hk (fun h => h)
        replace O_M := Rv.rdv_keep O_M hk (fun _ _ h => h)
        replace K_0 := K_0.then_ hk (fun _ h => h.elim)
        clear hh hk
        refine d_take (v := Value.int .i64 (i : Int)) p44_3_0 ns44_3 (by kernel_rfl) (by kernel_rfl) (fun _ _ _ h => h) hE wn_none rfl ⟨B_gd, B_g1, (Rv.rdv_elem (fl := fl3) O_M (by decide) (fun _ => rfl) hx).2, trivial⟩ (fun W hS => (st_move rfl)) rfl ?_
        clear hE a; intro a hE
        refine d_take (v := Value.pointer (some ⟨gd, 0, none⟩)) p44_3_1 ns44_3 (by kernel_rfl) (by kernel_rfl) (fun _ _ _ h => h) hE wn_none rfl ⟨B_gd, B_g1, (Rv.rdv_elem (fl := fl3) O_M (by decide) (fun _ => rfl) hx).2, trivial⟩ (fun W hS => (st_move rfl)) rfl ?_
        clear hE a; intro a hE
        refine d_take (v := Value.pointer (some ⟨gd, 0, none⟩)) p44_3_2 ns44_3 (by kernel_rfl) (by kernel_rfl) (fun _ _ _ h => h) hE wn_none rfl ⟨B_gd, B_g1, (Rv.rdv_elem (fl := fl3) O_M (by decide) (fun _ => rfl) hx).2, trivial⟩ (fun W hS => (st_nil rfl)) rfl ?_
        clear hE a; intro a hE
        refine d_take (v := Value.pointer (some ⟨gd, 2, none⟩)) p44_3_3 ns44_3 (by kernel_rfl) (by kernel_rfl) (fun _ _ _ h => h) hE wn_none rfl ⟨B_gd, B_g1, (Rv.rdv_elem (fl := fl3) O_M (by decide) (fun _ => rfl) hx).2, trivial⟩ (fun W hS => (st_fieldAddr Try.underlying66 rfl tS64 rfl rfl)) rfl ?_
        clear hE a; intro a hE
        refine d_take (v := Value.slice AM4 M.length cM5) p44_3_4 ns44_3 (by kernel_rfl) (by kernel_rfl) (fun _ _ _ h => h) hE wn_none rfl ⟨B_gd, B_g1, (Rv.rdv_elem (fl := fl3) O_M (by decide) (fun _ => rfl) hx).2, trivial⟩ (fun W hS => (st_load1 tA64 rfl ((blk_cell hS.1 2).trans rfl))) rfl ?_
        clear hE a; intro a hE
        refine d_take (v := Value.int .i64 (M.length : Int)) p44_3_5 ns44_3 (by kernel_rfl) (by kernel_rfl) (fun _ _ _ h => h) hE wn_none rfl ⟨B_gd, B_g1, (Rv.rdv_elem (fl := fl3) O_M (by decide) (fun _ => rfl) hx).2, trivial⟩ (fun W hS => (st_len Try.underlying64 rfl)) rfl ?_
        clear hE a; intro a hE
        refine d_take (v := Value.bool true) p44_3_6 ns44_3 (by kernel_rfl) (by kernel_rfl) (fun _ _ _ h => h) hE wn_none rfl ⟨B_gd, B_g1, (Rv.rdv_elem (fl := fl3) O_M (by decide) (fun _ => rfl) hx).2, trivial⟩ (fun W hS => (st_lss (b := true) rfl rfl (decide_eq_true hK1))) rfl ?_
        clear hE a; intro a hE
        refine d_take (v := Value.bool true) p44_3_7 ns44_3 (by kernel_rfl) (by kernel_rfl) (fun _ _ _ h => h) hE wn_none rfl ⟨B_gd, B_g1, (Rv.rdv_elem (fl := fl3) O_M (by decide) (fun _ => rfl) hx).2, trivial⟩ (fun W hS => (st_move rfl)) rfl ?_
        clear hE a; intro a hE
        refine d_take (v := Value.pointer (some ⟨gd, 0, none⟩)) p44_3_8 ns44_3 (by kernel_rfl) (by kernel_rfl) (fun _ _ _ h => h) hE (wn_some g44_3_7 rfl rfl) rfl ⟨B_gd, B_g1, (Rv.rdv_elem (fl := fl3) O_M (by decide) (fun _ => rfl) hx).2, trivial⟩ (fun W hS => (st_move rfl)) rfl ?_
        clear hE a; intro a hE
        refine d_take (v := Value.pointer (some ⟨gd, 0, none⟩)) p44_3_9 ns44_3 (by kernel_rfl) (by kernel_rfl) (fun _ _ _ h => h) hE (wn_some g44_3_7 rfl rfl) rfl ⟨B_gd, B_g1, (Rv.rdv_elem (fl := fl3) O_M (by decide) (fun _ => rfl) hx).2, trivial⟩ (fun W hS => (st_nil rfl)) rfl ?_
        clear hE a; intro a hE
        refine d_take (v := Value.pointer (some ⟨gd, 2, none⟩)) p44_3_10 ns44_3 (by kernel_rfl) (by kernel_rfl) (fun _ _ _ h => h) hE (wn_some g44_3_7 rfl rfl) rfl ⟨B_gd, B_g1, (Rv.rdv_elem (fl := fl3) O_M (by decide) (fun _ => rfl) hx).2, trivial⟩ (fun W hS => (st_fieldAddr Try.underlying66 rfl tS64 rfl rfl)) rfl ?_
        clear hE a; intro a hE
        refine d_take (v := Value.slice AM4 M.length cM5) p44_3_11 ns44_3 (by kernel_rfl) (by kernel_rfl) (fun _ _ _ h => h) hE (wn_some g44_3_7 rfl rfl) rfl ⟨B_gd, B_g1, (Rv.rdv_elem (fl := fl3) O_M (by decide) (fun _ => rfl) hx).2, trivial⟩ (fun W hS => (st_load1 tA64 rfl ((blk_cell hS.1 2).trans rfl))) rfl ?_
        clear hE a; intro a hE
        refine d_take (v := Value.int .i64 (i : Int)) p44_3_12 ns44_3 (by kernel_rfl) (by kernel_rfl) (fun _ _ _ h => h) hE (wn_some g44_3_7 rfl rfl) rfl ⟨B_gd, B_g1, (Rv.rdv_elem (fl := fl3) O_M (by decide) (fun _ => rfl) hx).2, trivial⟩ (fun W hS => (st_move rfl)) rfl ?_
        clear hE a; intro a hE
        refine d_take (v := Value.pointer (some (ea AM4 (i * 3)))) p44_3_13 ns44_3 (by kernel_rfl) (by kernel_rfl) (fun _ _ _ h => h) hE (wn_some g44_3_7 rfl rfl) rfl ⟨B_gd, B_g1, (Rv.rdv_elem (fl := fl3) O_M (by decide) (fun _ => rfl) hx).2, trivial⟩ (fun W hS => (st_indexAddrR (i := i) (s := 3) Try.underlying64 tS70 hAep rfl rfl (by omega))) rfl ?_
        clear hE a; intro a hE
        refine d_take (v := Value.pointer (some (ea AM4 (i * 3)))) p44_3_14 ns44_3 (by kernel_rfl) (by kernel_rfl) (fun _ _ _ h => h) hE (wn_some g44_3_7 rfl rfl) rfl ⟨B_gd, B_g1, (Rv.rdv_elem (fl := fl3) O_M (by decide) (fun _ => rfl) hx).2, trivial⟩ (fun W hS => (st_fieldAddrR (off := i * 3) (f0 := 0) (o' := i * 3) Try.underlying70 rfl tS3 rfl (by omega) rfl)) rfl ?_
        clear hE a; intro a hE
        refine d_take (v := Value.int .i64 p.1) p44_3_15 ns44_3 (by kernel_rfl) (by kernel_rfl) (fun _ _ _ h => h) hE (wn_some g44_3_7 rfl rfl) rfl ⟨B_gd, B_g1, (Rv.rdv_elem (fl := fl3) O_M (by decide) (fun _ => rfl) hx).2, trivial⟩ (fun W hS => (st_loadR1 (off := i * 3) (j := 0) tA3 (hS.2.2.1) rfl (by omega) rfl)) rfl ?_
        clear hE a; intro a hE
        refine d_take (v := Value.pointer (some ⟨g1, 0, none⟩)) p44_3_16 ns44_3 (by kernel_rfl) (by kernel_rfl) (fun _ _ _ h => h) hE (wn_some g44_3_7 rfl rfl) rfl ⟨B_gd, B_g1, (Rv.rdv_elem (fl := fl3) O_M (by decide) (fun _ => rfl) hx).2, trivial⟩ (fun W hS => (st_fieldAddr Try.underlying70 rfl tS3 rfl rfl)) rfl ?_
        clear hE a; intro a hE
        refine d_take (v := Value.int .i64 o.1) p44_3_17 ns44_3 (by kernel_rfl) (by kernel_rfl) (fun _ _ _ h => h) hE (wn_some g44_3_7 rfl rfl) rfl ⟨B_gd, B_g1, (Rv.rdv_elem (fl := fl3) O_M (by decide) (fun _ => rfl) hx).2, trivial⟩ (fun W hS => (st_load1 tA3 rfl ((blk_cell hS.2.1 0).trans rfl))) rfl ?_
        clear hE a; intro a hE
        refine d_take (v := Value.bool false) p44_3_18 ns44_3 (by kernel_rfl) (by kernel_rfl) (fun _ _ _ h => h) hE (wn_some g44_3_7 rfl rfl) rfl ⟨B_gd, B_g1, (Rv.rdv_elem (fl := fl3) O_M (by decide) (fun _ => rfl) hx).2, trivial⟩ (fun W hS => (st_lss (b := false) rfl rfl (decide_eq_false hK2))) rfl ?_
        clear hE a; intro a hE
        refine d_take (v := Value.bool false) p44_3_19 ns44_3 (by kernel_rfl) (by kernel_rfl) (fun _ _ _ h => h) hE wn_none rfl ⟨B_gd, B_g1, (Rv.rdv_elem (fl := fl3) O_M (by decide) (fun _ => rfl) hx).2, trivial⟩ (fun W hS => (st_pick rfl rfl)) rfl ?_
        clear hE a; intro a hE
        refine d_end (by kernel_rfl) ?_
        refine x_norm ?_
        refine c_cond (t := false) hE rfl ?_
        refine wp_exit ?_
        refine x_exit ?_
        refine x_exit ?_
        have hhigh : ∀ p, M[i]? = some p → ¬ p.1 < o.1 := fun q hq => by rw [hx] at hq; injection hq with hq; rw [← hq]; exact hK2
        refine x_in ?_
        refine x_norm ?_
        have hE2 : En 52 a [(0, Value.pointer (some ⟨gd, 0, none⟩)), (3, Value.pointer (some ⟨g1, 0, none⟩)), (4, Value.int .i64 (i : Int))] := En.sub hE ⟨rfl, rfl, rfl, trivial⟩
        exact put5 w w9 gd AM4 cM5 M wt tr o i g1 B_gd O_M hc_M (by omega) Nb_M_gd Nb_M_g1 B_g1 n_gd_g1 K_0 hi9 hlow hhigh (fun A' c' W' h1 h2 h3 h4 h5 => ⟨A', c', rfl, by rw [hM]; exact h1, by rw [hM]; exact h2, by rw [hM]; exact h3, fun k h => .inr (h4 k h), h5⟩) _ hE2
    ·
      refine c_drawS (S := fun W => W.heap[gd]? = some (.cells #[Value.int .i64 wt, Value.int .i64 tr, Value.slice AM4 M.length cM5] 66 (0, 0)) ∧ W.heap[g1]? = some (.cells #[Value.int .i64 o.1, Value.int .i64 o.2.1, Value.int .i64 o.2.2] 70 (0, 0)) ∧ True) rfl rfl (listed := #[false, false, false, false, false, false, false, false, false, false, false, false, false, false, false, false, false, false, false, false]) rfl ?_
      intro w10 hh hk
      replace B_gd := kp_blk B_gd hk (fun h => h)
      replace B_g1 := kp_blk B_g1 hk (fun h => h)
      replace O_M := Rv.rdv_keep O_M hk (fun _ _ h => h)
      replace K_0 := K_0.then_ hk (fun _ h => h.elim)
      clear hh hk
      refine d_take (v := Value.int .i64 (i : Int)) p44_3_0 ns44_3 (by kernel_rfl) (by kernel_rfl) (fun _ _ _ h => h) hE wn_none rfl ⟨B_gd, B_g1, trivial⟩ (fun W hS => (st_move rfl)) rfl ?_
      clear hE a; intro a hE
      refine d_take (v := Value.pointer (some ⟨gd, 0, none⟩)) p44_3_1 ns44_3 (by kernel_rfl) (by kernel_rfl) (fun _ _ _ h => h) hE wn_none rfl ⟨B_gd, B_g1, trivial⟩ (fun W hS => (st_move rfl)) rfl ?_
      clear hE a; intro a hE
      refine d_take (v := Value.pointer (some ⟨gd, 0, none⟩)) p44_3_2 ns44_3 (by kernel_rfl) (by kernel_rfl) (fun _ _ _ h => h) hE wn_none rfl ⟨B_gd, B_g1, trivial⟩ (fun W hS => (st_nil rfl)) rfl ?_
      clear hE a; intro a hE
      refine d_take (v := Value.pointer (some ⟨gd, 2, none⟩)) p44_3_3 ns44_3 (by kernel_rfl) (by kernel_rfl) (fun _ _ _ h => h) hE wn_none rfl ⟨B_gd, B_g1, trivial⟩ (fun W hS => (st_fieldAddr Try.underlying66 rfl tS64 rfl rfl)) rfl ?_
      clear hE a; intro a hE
      refine d_take (v := Value.slice AM4 M.length cM5) p44_3_4 ns44_3 (by kernel_rfl) (by kernel_rfl) (fun _ _ _ h => h) hE wn_none rfl ⟨B_gd, B_g1, trivial⟩ (fun W hS => (st_load1 tA64 rfl ((blk_cell hS.1 2).trans rfl))) rfl ?_
      clear hE a; intro a hE
      refine d_take (v := Value.int .i64 (M.length : Int)) p44_3_5 ns44_3 (by kernel_rfl) (by kernel_rfl) (fun _ _ _ h => h) hE wn_none rfl ⟨B_gd, B_g1, trivial⟩ (fun W hS => (st_len Try.underlying64 rfl)) rfl ?_
      clear hE a; intro a hE
      refine d_take (v := Value.bool false) p44_3_6 ns44_3 (by kernel_rfl) (by kernel_rfl) (fun _ _ _ h => h) hE wn_none rfl ⟨B_gd, B_g1, trivial⟩ (fun W hS => (st_lss (b := false) rfl rfl (decide_eq_false hK1))) rfl ?_
      clear hE a; intro a hE
      refine d_take (v := Value.bool false) p44_3_7 ns44_3 (by kernel_rfl) (by kernel_rfl) (fun _ _ _ h => h) hE wn_none rfl ⟨B_gd, B_g1, trivial⟩ (fun W hS => (st_move rfl)) rfl ?_
      clear hE a; intro a hE
      refine d_skip p44_3_8 ns44_3 (by kernel_rfl) (by kernel_rfl) (fun _ _ _ h => h) hE (wn_some g44_3_7 rfl rfl) rfl ⟨B_gd, B_g1, trivial⟩ rfl ?_
      clear hE a; intro a hE
      refine d_skip p44_3_9 ns44_3 (by kernel_rfl) (by kernel_rfl) (fun _ _ _ h => h) hE (wn_some g44_3_7 rfl rfl) rfl ⟨B_gd, B_g1, trivial⟩ rfl ?_
      clear hE a; intro a hE
      refine d_skip p44_3_10 ns44_3 (by kernel_rfl) (by kernel_rfl) (fun _ _ _ h => h) hE (wn_some g44_3_7 rfl rfl) rfl ⟨B_gd, B_g1, trivial⟩ rfl ?_
      clear hE a; intro a hE
      refine d_skip p44_3_11 ns44_3 (by kernel_rfl) (by kernel_rfl) (fun _ _ _ h => h) hE (wn_some g44_3_7 rfl rfl) rfl ⟨B_gd, B_g1, trivial⟩ rfl ?_
      clear hE a; intro a hE
      refine d_skip p44_3_12 ns44_3 (by kernel_rfl) (by kernel_rfl) (fun _ _ _ h => h) hE (wn_some g44_3_7 rfl rfl) rfl ⟨B_gd, B_g1, trivial⟩ rfl ?_
      clear hE a; intro a hE
      refine d_skip p44_3_13 ns44_3 (by kernel_rfl) (by kernel_rfl) (fun _ _ _ h => h) hE (wn_some g44_3_7 rfl rfl) rfl ⟨B_gd, B_g1, trivial⟩ rfl ?_
      clear hE a; intro a hE
      refine d_skip p44_3_14 ns44_3 (by kernel_rfl) (by kernel_rfl) (fun _ _ _ h => h) hE (wn_some g44_3_7 rfl rfl) rfl ⟨B_gd, B_g1, trivial⟩ rfl ?_
      clear hE a; intro a hE
      refine d_skip p44_3_15 ns44_3 (by kernel_rfl) (by kernel_rfl) (fun _ _ _ h => h) hE (wn_some g44_3_7 rfl rfl) rfl ⟨B_gd, B_g1, trivial⟩ rfl ?_
      clear hE a; intro a hE
      refine d_skip p44_3_16 ns44_3 (by kernel_rfl) (by kernel_rfl) (fun _ _ _ h => h) hE (wn_some g44_3_7 rfl rfl) rfl ⟨B_gd, B_g1, trivial⟩ rfl ?_
      clear hE a; intro a hE
      refine d_skip p44_3_17 ns44_3 (by kernel_rfl) (by kernel_rfl) (fun _ _ _ h => h) hE (wn_some g44_3_7 rfl rfl) rfl ⟨B_gd, B_g1, trivial⟩ rfl ?_
      clear hE a; intro a hE
      refine d_skip p44_3_18 ns44_3 (by kernel_rfl) (by kernel_rfl) (fun _ _ _ h => h) hE (wn_some g44_3_7 rfl rfl) rfl ⟨B_gd, B_g1, trivial⟩ rfl ?_
      clear hE a; intro a hE
      refine d_take (v := Value.bool false) p44_3_19 ns44_3 (by kernel_rfl) (by kernel_rfl) (fun _ _ _ h => h) hE wn_none rfl ⟨B_gd, B_g1, trivial⟩ (fun W hS => (st_pick rfl rfl)) rfl ?_
      clear hE a; intro a hE
      refine d_end (by kernel_rfl) ?_
      refine x_norm ?_
      refine c_cond (t := false) hE rfl ?_
      refine wp_exit ?_
      refine x_exit ?_
      refine x_exit ?_
      have hhigh : ∀ p, M[i]? = some p → ¬ p.1 < o.1 := fun q hq => by have := (List.getElem?_eq_some_iff.1 hq).1; omega
      refine x_in ?_
      refine x_norm ?_
      have hE2 : En 52 a [(0, Value.pointer (some ⟨gd, 0, none⟩)), (3, Value.pointer (some ⟨g1, 0, none⟩)), (4, Value.int .i64 (i : Int))] := En.sub hE ⟨rfl, rfl, rfl, trivial⟩
      exact put5 w w10 gd AM4 cM5 M wt tr o i g1 B_gd O_M hc_M (by omega) Nb_M_gd Nb_M_g1 B_g1 n_gd_g1 K_0 hi9 hlow hhigh (fun A' c' W' h1 h2 h3 h4 h5 => ⟨A', c', rfl, by rw [hM]; exact h1, by rw [hM]; exact h2, by rw [hM]; exact h3, fun k h => .inr (h4 k h), h5⟩) _ hE2
def sendR (L : L3) (wt s now : Int) : L3 := if okS s now then insL (rmL L s) (s, now + wt, 1) else L
structure StR where
  again : List Int
  lost : List Int
  l : L3
def stepR (wt tr now : Int) (q : StR) (o : Int × Int × Int) : StR :=
  if now < o.2.1 then q
  else if tr ≤ o.2.2 then ⟨q.again, q.lost ++ [o.1], rmL q.l o.1⟩
  else ⟨q.again ++ [o.1], q.lost, insL (rmL q.l o.1) (o.1, now + wt, o.2.2 + 1)⟩
def dueR (wt tr now : Int) (L : L3) : StR := if timeB now then L.foldl (stepR wt tr now) ⟨[], [], L⟩ else ⟨[], [], L⟩
def OkL (L : L3) : Prop := ∀ o ∈ L, (0 ≤ o.1 ∧ o.1 < 256) ∧ (0 ≤ o.2.1 ∧ o.2.1 ≤ 2305843009213693952) ∧ 1 ≤ o.2.2 ∧ o.2.2 ≤ 16
theorem foldl_next {α β : Type} (f : β → α → β) (a : β) {l : List α} {j : Nat} {s : α} (h : l[j]? = some s) : (l.take (j + 1)).foldl f a = f ((l.take j).foldl f a) s := by
  rw [List.take_add_one, h, List.foldl_append]
  rfl
theorem R28_0_l : List.range (regOf Try.f28 0).size = [0] := by kernel_rfl
theorem R28_1_l : List.range (regOf Try.f28 1).size = [0, 1, 2, 3, 4, 5, 6, 7, 8, 9, 10, 11, 12, 13] := by kernel_rfl
theorem R28_2_l : List.range (regOf Try.f28 2).size = [0] := by kernel_rfl
theorem R28_3_l : List.range (regOf Try.f28 3).size = [0, 1, 2, 3, 4, 5, 6, 7, 8, 9] := by kernel_rfl
theorem R28_4_l : List.range (regOf Try.f28 4).size = [0] := by kernel_rfl
theorem body28 : Try.f28.body = some (.seq (.region 0 (regOf Try.f28 0) false) (.seq (.seq (.region 1 (regOf Try.f28 1) false) (.cond (Operand.tmp 20) (.seq (.region 2 (regOf Try.f28 2) false) (.ret)) (.skip))) (.seq (.region 3 (regOf Try.f28 3) false) (.seq (.region 4 (regOf Try.f28 4) false) (.ret))))) := by kernel_rfl
theorem p28_0_0 : pj (regOf Try.f28 0) 0 = some (some 6, .assign (.const (.int .i64 0)), 3, none) := by kernel_rfl
theorem p28_1_0 : pj (regOf Try.f28 1) 0 = some (some 7, .move (.tmp 1), 3, none) := by kernel_rfl
theorem p28_1_1 : pj (regOf Try.f28 1) 1 = some (some 8, .binOp .lss 3 (.tmp 7) (.const (.int .i64 0)) 3, 4, none) := by kernel_rfl
theorem p28_1_2 : pj (regOf Try.f28 1) 2 = some (some 9, .move (.tmp 8), 4, none) := by kernel_rfl
theorem p28_1_3 : pj (regOf Try.f28 1) 3 = some (some 10, .move (.tmp 1), 3, some (2, false)) := by kernel_rfl
theorem g28_1_2 : dstOf (regOf Try.f28 1) 2 = some 9 := by kernel_rfl
theorem p28_1_4 : pj (regOf Try.f28 1) 4 = some (some 11, .binOp .gtr 3 (.tmp 10) (.const (.int .i64 255)) 3, 4, some (2, false)) := by kernel_rfl
theorem p28_1_5 : pj (regOf Try.f28 1) 5 = some (some 12, .pick (.tmp 9) (.const (.bool true)) (.tmp 11), 4, none) := by kernel_rfl
theorem p28_1_6 : pj (regOf Try.f28 1) 6 = some (some 13, .move (.tmp 12), 4, none) := by kernel_rfl
theorem p28_1_7 : pj (regOf Try.f28 1) 7 = some (some 14, .move (.tmp 2), 3, some (6, false)) := by kernel_rfl
theorem g28_1_6 : dstOf (regOf Try.f28 1) 6 = some 13 := by kernel_rfl
theorem p28_1_8 : pj (regOf Try.f28 1) 8 = some (some 15, .binOp .lss 3 (.tmp 14) (.const (.int .i64 0)) 3, 4, some (6, false)) := by kernel_rfl
theorem p28_1_9 : pj (regOf Try.f28 1) 9 = some (some 16, .pick (.tmp 13) (.const (.bool true)) (.tmp 15), 4, none) := by kernel_rfl
theorem p28_1_10 : pj (regOf Try.f28 1) 10 = some (some 17, .move (.tmp 16), 4, none) := by kernel_rfl
theorem p28_1_11 : pj (regOf Try.f28 1) 11 = some (some 18, .move (.tmp 2), 3, some (10, false)) := by kernel_rfl
theorem g28_1_10 : dstOf (regOf Try.f28 1) 10 = some 17 := by kernel_rfl
theorem p28_1_12 : pj (regOf Try.f28 1) 12 = some (some 19, .binOp .gtr 3 (.tmp 18) (.const (.int .i64 1152921504606846976)) 3, 4, some (10, false)) := by kernel_rfl
theorem p28_1_13 : pj (regOf Try.f28 1) 13 = some (some 20, .pick (.tmp 17) (.const (.bool true)) (.tmp 19), 4, none) := by kernel_rfl
theorem p28_2_0 : pj (regOf Try.f28 2) 0 = some (some 6, .assign (.const (.int .i64 1)), 3, none) := by kernel_rfl
theorem p28_3_0 : pj (regOf Try.f28 3) 0 = some (some 21, .move (.tmp 0), 63, none) := by kernel_rfl
theorem p28_3_1 : pj (regOf Try.f28 3) 1 = some (some 22, .move (.tmp 1), 3, none) := by kernel_rfl
theorem p28_3_2 : pj (regOf Try.f28 3) 2 = some (some 23, .move (.tmp 2), 3, none) := by kernel_rfl
theorem p28_3_3 : pj (regOf Try.f28 3) 3 = some (some 24, .move (.tmp 0), 63, none) := by kernel_rfl
theorem p28_3_4 : pj (regOf Try.f28 3) 4 = some (some 25, .nilCheck (.tmp 24), 0, none) := by kernel_rfl
theorem p28_3_5 : pj (regOf Try.f28 3) 5 = some (some 26, .fieldAddr 66 (.tmp 25) 0, 0, none) := by kernel_rfl
theorem p28_3_6 : pj (regOf Try.f28 3) 6 = some (some 27, .load 3 (.tmp 26), 3, none) := by kernel_rfl
theorem p28_3_7 : pj (regOf Try.f28 3) 7 = some (some 28, .binOp .add 3 (.tmp 23) (.tmp 27) 3, 3, none) := by kernel_rfl
theorem p28_3_8 : pj (regOf Try.f28 3) 8 = some (some 29, .build 70 #[(0, .tmp 22), (1, .tmp 28), (2, .const (.int .i64 1))], 70, none) := by kernel_rfl
theorem p28_3_9 : pj (regOf Try.f28 3) 9 = some (some 30, .call { callee := .value (.func 44), args := #[.tmp 21, .tmp 29], argTypes := #[63, 70] }, 0, none) := by kernel_rfl
theorem cl44 : callable Try.f44 = true := by kernel_rfl
theorem p28_4_0 : pj (regOf Try.f28 4) 0 = some (some 6, .assign (.const (.int .i64 0)), 3, none) := by kernel_rfl
set_option maxHeartbeats 4000000 in
theorem rsend_any (gd : Nat) (A : Option Addr) (c : Nat) (L : List (Int × Int × Int)) (wt tr : Int) (s now : Int) (hw : 0 ≤ wt ∧ wt ≤ 1048576) (w : World) (hd : w.heap[gd]? = some (.cells #[.int .i64 wt, .int .i64 tr, .slice A L.length c] 66 (0, 0))) (hR : Rv.RdV w A L.length 3 (flO L)) (hcA : L.length ≤ c ∧ (A = none → c = 0)) (hll : L.length ≤ 1000) (hnd : ¬ OB A gd) : Calls Try.prog 28 #[.pointer (some ⟨gd, 0, none⟩), .int .i64 s, .int .i64 now] w fun e w' => ∃ A' c', e = .returned (.int .i64 (bif okS s now then 0 else 1)) ∧ w'.heap[gd]? = some (.cells #[.int .i64 wt, .int .i64 tr, .slice A' (sendR L wt s now).length c'] 66 (0, 0)) ∧ Rv.RdV w' A' (sendR L wt s now).length 3 (flO (sendR L wt s now)) ∧ ((sendR L wt s now).length ≤ c' ∧ (A' = none → c' = 0)) ∧ (∀ k, OB A' k → OB A k ∨ w.heap.size ≤ k) ∧ Kp w w' (fun k => k = gd) := by
  have K_0 := Kp.refl w (fun k => k = gd)
  have B_gd := hd
  have O_L := hR
  have Nb_L_gd := hnd
  refine enter (args := [Value.pointer (some ⟨gd, 0, none⟩), Value.int .i64 s, Value.int .i64 now]) (n := 31) Try.func28 body28 rfl rfl rfl ?_
  intro a hE
  refine c_reg R28_0_l ?_
  refine q0 p28_0_0 hE (st_assign rfl) ?_
  clear hE a; intro a hE
  refine p_nil ?_
  refine x_norm ?_
  refine wp_seq ?_
  rcases Decidable.em (s < 0) with hA1 | hA1
  ·
    refine c_reg R28_1_l ?_
    refine q0 p28_1_0 hE (st_move rfl) ?_
    clear hE a; intro a hE
    refine q0 p28_1_1 hE (st_lss (b := true) rfl rfl (decide_eq_true hA1)) ?_
    clear hE a; intro a hE
    refine q0 p28_1_2 hE (st_move rfl) ?_
    clear hE a; intro a hE
    refine p_cons (s_skip p28_1_3 hE (wn_some g28_1_2 rfl rfl) rfl ?_)
    clear hE a; intro a hE
    refine p_cons (s_skip p28_1_4 hE (wn_some g28_1_2 rfl rfl) rfl ?_)
    clear hE a; intro a hE
    refine q0 p28_1_5 hE (st_pick rfl rfl) ?_
    clear hE a; intro a hE
    refine q0 p28_1_6 hE (st_move rfl) ?_
    clear hE a; intro a hE
    refine p_cons (s_skip p28_1_7 hE (wn_some g28_1_6 rfl rfl) rfl ?_)
    clear hE a; intro a hE
    refine p_cons (s_skip p28_1_8 hE (wn_some g28_1_6 rfl rfl) rfl ?_)
    clear hE a; intro a hE
    refine q0 p28_1_9 hE (st_pick rfl rfl) ?_
    clear hE a; intro a hE
    refine q0 p28_1_10 hE (st_move rfl) ?_
    clear hE a; intro a hE
    refine p_cons (s_skip p28_1_11 hE (wn_some g28_1_10 rfl rfl) rfl ?_)
    clear hE a; intro a hE
    refine p_cons (s_skip p28_1_12 hE (wn_some g28_1_10 rfl rfl) rfl ?_)
    clear hE a; intro a hE
    refine q0 p28_1_13 hE (st_pick rfl rfl) ?_
    clear hE a; intro a hE
    refine p_nil ?_
    refine x_norm ?_
    refine c_cond (t := true) hE rfl ?_
    refine c_reg R28_2_l ?_
    refine q0 p28_2_0 hE (st_assign rfl) ?_
    clear hE a; intro a hE
    refine p_nil ?_
    refine x_norm ?_
    refine wp_ret ?_
    refine x_ret ?_
    refine ret_one (v := Value.int .i64 1) rfl hE (.tmp rfl .nil) ?_
    have hst : okS s now = false := by unfold okS seqB timeB; rw [Bool.and_eq_false_iff]; first | exact .inl (decide_eq_false (by omega)) | exact .inr (decide_eq_false (by omega))
    have hsr : sendR L wt s now = L := by unfold sendR; rw [hst]; rfl
    rw [hsr, hst]
    exact ⟨A, c, rfl, B_gd, O_L, hcA, fun k h => .inl h, K_0⟩
  ·
    rcases Decidable.em (255 < s) with hA2 | hA2
    ·
      refine c_reg R28_1_l ?_
      refine q0 p28_1_0 hE (st_move rfl) ?_
      clear hE a; intro a hE
      refine q0 p28_1_1 hE (st_lss (b := false) rfl rfl (decide_eq_false hA1)) ?_
      clear hE a; intro a hE
      refine q0 p28_1_2 hE (st_move rfl) ?_
      clear hE a; intro a hE
      refine p_cons (s_still p28_1_3 hE (wn_some g28_1_2 rfl rfl) rfl (st_move rfl) ?_)
      clear hE a; intro a hE
      refine p_cons (s_still p28_1_4 hE (wn_some g28_1_2 rfl rfl) rfl (st_gtr (b := true) rfl rfl (decide_eq_true hA2)) ?_)
      clear hE a; intro a hE
      refine q0 p28_1_5 hE (st_pick rfl rfl) ?_
      clear hE a; intro a hE
      refine q0 p28_1_6 hE (st_move rfl) ?_
      clear hE a; intro a hE
      refine p_cons (s_skip p28_1_7 hE (wn_some g28_1_6 rfl rfl) rfl ?_)
      clear hE a; intro a hE
      refine p_cons (s_skip p28_1_8 hE (wn_some g28_1_6 rfl rfl) rfl ?_)
      clear hE a; intro a hE
      refine q0 p28_1_9 hE (st_pick rfl rfl) ?_
      clear hE a; intro a hE
      refine q0 p28_1_10 hE (st_move rfl) ?_
      clear hE a; intro a hE
      refine p_cons (s_skip p28_1_11 hE (wn_some g28_1_10 rfl rfl) rfl ?_)
      clear hE a; intro a hE
      refine p_cons (s_skip p28_1_12 hE (wn_some g28_1_10 rfl rfl) rfl ?_)
      clear hE a; intro a hE
      refine q0 p28_1_13 hE (st_pick rfl rfl) ?_
      clear hE a; intro a hE
      refine p_nil ?_
      refine x_norm ?_
      refine c_cond (t := true) hE rfl ?_
      refine c_reg R28_2_l ?_
      refine q0 p28_2_0 hE (st_assign rfl) ?_
      clear hE a; intro a hE
      refine p_nil ?_
      refine x_norm ?_
      refine wp_ret ?_
      refine x_ret ?_
      refine ret_one (v := Value.int .i64 1) rfl hE (.tmp rfl .nil) ?_
      have hst : okS s now = false := by unfold okS seqB timeB; rw [Bool.and_eq_false_iff]; first | exact .inl (decide_eq_false (by omega)) | exact .inr (decide_eq_false (by omega))
      have hsr : sendR L wt s now = L := by unfold sendR; rw [hst]; rfl
      rw [hsr, hst]
      exact ⟨A, c, rfl, B_gd, O_L, hcA, fun k h => .inl h, K_0⟩
    ·
      rcases Decidable.em (now < 0) with hA3 | hA3
      ·
        refine c_reg R28_1_l ?_
        refine q0 p28_1_0 hE (st_move rfl) ?_
        clear hE a; intro a hE
        refine q0 p28_1_1 hE (st_lss (b := false) rfl rfl (decide_eq_false hA1)) ?_
        clear hE a; intro a hE
        refine q0 p28_1_2 hE (st_move rfl) ?_
        clear hE a; intro a hE
        refine p_cons (s_still p28_1_3 hE (wn_some g28_1_2 rfl rfl) rfl (st_move rfl) ?_)
        clear hE a; intro a hE
        refine p_cons (s_still p28_1_4 hE (wn_some g28_1_2 rfl rfl) rfl (st_gtr (b := false) rfl rfl (decide_eq_false hA2)) ?_)
        clear hE a; intro a hE
        refine q0 p28_1_5 hE (st_pick rfl rfl) ?_
        clear hE a; intro a hE
        refine q0 p28_1_6 hE (st_move rfl) ?_
        clear hE a; intro a hE
        refine p_cons (s_still p28_1_7 hE (wn_some g28_1_6 rfl rfl) rfl (st_move rfl) ?_)
        clear hE a; intro a hE
        refine p_cons (s_still p28_1_8 hE (wn_some g28_1_6 rfl rfl) rfl (st_lss (b := true) rfl rfl (decide_eq_true hA3)) ?_)
        clear hE a; intro a hE
        refine q0 p28_1_9 hE (st_pick rfl rfl) ?_
        clear hE a; intro a hE
        refine q0 p28_1_10 hE (st_move rfl) ?_
        clear hE a; intro a hE
        refine p_cons (s_skip p28_1_11 hE (wn_some g28_1_10 rfl rfl) rfl ?_)
        clear hE a; intro a hE
        refine p_cons (s_skip p28_1_12 hE (wn_some g28_1_10 rfl rfl) rfl ?_)
        clear hE a; intro a hE
        refine q0 p28_1_13 hE (st_pick rfl rfl) ?_
        clear hE a; intro a hE
        refine p_nil ?_
        refine x_norm ?_
        refine c_cond (t := true) hE rfl ?_
        refine c_reg R28_2_l ?_
        refine q0 p28_2_0 hE (st_assign rfl) ?_
        clear hE a; intro a hE
        refine p_nil ?_
        refine x_norm ?_
        refine wp_ret ?_
        refine x_ret ?_
        refine ret_one (v := Value.int .i64 1) rfl hE (.tmp rfl .nil) ?_
        have hst : okS s now = false := by unfold okS seqB timeB; rw [Bool.and_eq_false_iff]; first | exact .inl (decide_eq_false (by omega)) | exact .inr (decide_eq_false (by omega))
        have hsr : sendR L wt s now = L := by unfold sendR; rw [hst]; rfl
        rw [hsr, hst]
        exact ⟨A, c, rfl, B_gd, O_L, hcA, fun k h => .inl h, K_0⟩
      ·
        rcases Decidable.em (1152921504606846976 < now) with hA4 | hA4
        ·
          refine c_reg R28_1_l ?_
          refine q0 p28_1_0 hE (st_move rfl) ?_
          clear hE a; intro a hE
          refine q0 p28_1_1 hE (st_lss (b := false) rfl rfl (decide_eq_false hA1)) ?_
          clear hE a; intro a hE
          refine q0 p28_1_2 hE (st_move rfl) ?_
          clear hE a; intro a hE
          refine p_cons (s_still p28_1_3 hE (wn_some g28_1_2 rfl rfl) rfl (st_move rfl) ?_)
          clear hE a; intro a hE
          refine p_cons (s_still p28_1_4 hE (wn_some g28_1_2 rfl rfl) rfl (st_gtr (b := false) rfl rfl (decide_eq_false hA2)) ?_)
          clear hE a; intro a hE
          refine q0 p28_1_5 hE (st_pick rfl rfl) ?_
          clear hE a; intro a hE
          refine q0 p28_1_6 hE (st_move rfl) ?_
          clear hE a; intro a hE
          refine p_cons (s_still p28_1_7 hE (wn_some g28_1_6 rfl rfl) rfl (st_move rfl) ?_)
          clear hE a; intro a hE
          refine p_cons (s_still p28_1_8 hE (wn_some g28_1_6 rfl rfl) rfl (st_lss (b := false) rfl rfl (decide_eq_false hA3)) ?_)
          clear hE a; intro a hE
          refine q0 p28_1_9 hE (st_pick rfl rfl) ?_
          clear hE a; intro a hE
          refine q0 p28_1_10 hE (st_move rfl) ?_
          clear hE a; intro a hE
          refine p_cons (s_still p28_1_11 hE (wn_some g28_1_10 rfl rfl) rfl (st_move rfl) ?_)
          clear hE a; intro a hE
          refine p_cons (s_still p28_1_12 hE (wn_some g28_1_10 rfl rfl) rfl (st_gtr (b := true) rfl rfl (decide_eq_true hA4)) ?_)
          clear hE a; intro a hE
          refine q0 p28_1_13 hE (st_pick rfl rfl) ?_
          clear hE a; intro a hE
          refine p_nil ?_
          refine x_norm ?_
          refine c_cond (t := true) hE rfl ?_
          refine c_reg R28_2_l ?_
          refine q0 p28_2_0 hE (st_assign rfl) ?_
          clear hE a; intro a hE
          refine p_nil ?_
          refine x_norm ?_
          refine wp_ret ?_
          refine x_ret ?_
          refine ret_one (v := Value.int .i64 1) rfl hE (.tmp rfl .nil) ?_
          have hst : okS s now = false := by unfold okS seqB timeB; rw [Bool.and_eq_false_iff]; first | exact .inl (decide_eq_false (by omega)) | exact .inr (decide_eq_false (by omega))
          have hsr : sendR L wt s now = L := by unfold sendR; rw [hst]; rfl
          rw [hsr, hst]
          exact ⟨A, c, rfl, B_gd, O_L, hcA, fun k h => .inl h, K_0⟩
        ·
          refine c_reg R28_1_l ?_
          refine q0 p28_1_0 hE (st_move rfl) ?_
          clear hE a; intro a hE
          refine q0 p28_1_1 hE (st_lss (b := false) rfl rfl (decide_eq_false hA1)) ?_
          clear hE a; intro a hE
          refine q0 p28_1_2 hE (st_move rfl) ?_
          clear hE a; intro a hE
          refine p_cons (s_still p28_1_3 hE (wn_some g28_1_2 rfl rfl) rfl (st_move rfl) ?_)
          clear hE a; intro a hE
          refine p_cons (s_still p28_1_4 hE (wn_some g28_1_2 rfl rfl) rfl (st_gtr (b := false) rfl rfl (decide_eq_false hA2)) ?_)
          clear hE a; intro a hE
          refine q0 p28_1_5 hE (st_pick rfl rfl) ?_
          clear hE a; intro a hE
          refine q0 p28_1_6 hE (st_move rfl) ?_
          clear hE a; intro a hE
          refine p_cons (s_still p28_1_7 hE (wn_some g28_1_6 rfl rfl) rfl (st_move rfl) ?_)
          clear hE a; intro a hE
          refine p_cons (s_still p28_1_8 hE (wn_some g28_1_6 rfl rfl) rfl (st_lss (b := false) rfl rfl (decide_eq_false hA3)) ?_)
          clear hE a; intro a hE
          refine q0 p28_1_9 hE (st_pick rfl rfl) ?_
          clear hE a; intro a hE
          refine q0 p28_1_10 hE (st_move rfl) ?_
          clear hE a; intro a hE
          refine p_cons (s_still p28_1_11 hE (wn_some g28_1_10 rfl rfl) rfl (st_move rfl) ?_)
          clear hE a; intro a hE
          refine p_cons (s_still p28_1_12 hE (wn_some g28_1_10 rfl rfl) rfl (st_gtr (b := false) rfl rfl (decide_eq_false hA4)) ?_)
          clear hE a; intro a hE
          refine q0 p28_1_13 hE (st_pick rfl rfl) ?_
          clear hE a; intro a hE
          refine p_nil ?_
          refine x_norm ?_
          refine c_cond (t := false) hE rfl ?_
          refine wp_skip ?_
          refine x_norm ?_
          refine c_reg R28_3_l ?_
          refine q0 p28_3_0 hE (st_move rfl) ?_
          clear hE a; intro a hE
          refine q0 p28_3_1 hE (st_move rfl) ?_
          clear hE a; intro a hE
          refine q0 p28_3_2 hE (st_move rfl) ?_
          clear hE a; intro a hE
          refine q0 p28_3_3 hE (st_move rfl) ?_
          clear hE a; intro a hE
          refine q0 p28_3_4 hE (st_nil rfl) ?_
          clear hE a; intro a hE
          refine q0 p28_3_5 hE (st_fieldAddr Try.underlying66 rfl tS3 rfl rfl) ?_
          clear hE a; intro a hE
          refine q0 p28_3_6 hE (st_load1 tA3 rfl ((blk_cell B_gd 0).trans rfl)) ?_
          clear hE a; intro a hE
          refine q0 p28_3_7 hE (st_add (z := now + wt) rfl rfl (wr_i64 _ (by omega) (by omega))) ?_
          clear hE a; intro a hE
          refine q0 p28_3_8 hE (st_build (xs := [(0, Operand.tmp 22), (1, Operand.tmp 28), (2, Operand.const (Value.int IntKind.i64 1))]) (vs := [(0, Value.int .i64 s), (1, Value.int .i64 (now + wt)), (2, Value.int .i64 1)]) (cs := #[Value.int .i64 s, Value.int .i64 (now + wt), Value.int .i64 1]) rfl (by kernel_rfl)) ?_
          clear hE a; intro a hE
          have hnb_gd := blk_lt B_gd
          have hkz9 := K_0.kept.1
          refine p_cons (s_call (xs := [Operand.tmp 21, Operand.tmp 29]) (args := [Value.pointer (some ⟨gd, 0, none⟩), Value.agg #[Value.int .i64 s, Value.int .i64 (now + wt), Value.int .i64 1]]) p28_3_9 hE wn_none rfl rfl Try.func44 cl44 (put_any gd A c L wt tr (s, now + wt, 1) _ B_gd O_L hcA hll Nb_L_gd) ?_)
          rintro e w3 ⟨AM1, cM2, rfl, B_gd', O_M, hc_M, hg9, hk⟩
          replace O_L := Rv.rdv_keep O_L hk (fun k hk2 h2 => Nb_L_gd (by rw [show k = gd from h2] at hk2; exact hk2))
          replace K_0 := K_0.then_ hk (fun k h => by rw [show k = gd from h]; exact Or.inl rfl)
          replace B_gd := B_gd'
          have Nb_M_gd : ¬ OB AM1 gd := fun h => (hg9 _ h).elim Nb_L_gd (fun h2 => by have := hnb_gd; omega)
          refine ⟨_, rfl, ?_⟩
          clear hE a; intro a hE
          refine p_nil ?_
          refine x_norm ?_
          refine c_reg R28_4_l ?_
          refine q0 p28_4_0 hE (st_assign rfl) ?_
          clear hE a; intro a hE
          refine p_nil ?_
          refine x_norm ?_
          refine wp_ret ?_
          refine ret_one (v := Value.int .i64 0) rfl hE (.tmp rfl .nil) ?_
          have hst : okS s now = true := by unfold okS seqB timeB; rw [decide_eq_true ⟨by omega, by omega⟩, decide_eq_true ⟨by omega, by omega⟩]; rfl
          have hsr : sendR L wt s now = insL (rmL L s) (s, now + wt, 1) := by unfold sendR; rw [hst]; rfl
          rw [hsr, hst]
          exact ⟨AM1, cM2, rfl, B_gd, O_M, hc_M, hg9, K_0⟩
theorem R30_0_l : List.range (regOf Try.f30 0).size = [0, 1] := by kernel_rfl
theorem R30_1_l : List.range (regOf Try.f30 1).size = [0, 1] := by kernel_rfl
theorem R30_2_l : List.range (regOf Try.f30 2).size = [0, 1, 2, 3, 4, 5] := by kernel_rfl
theorem R30_3_l : List.range (regOf Try.f30 3).size = [0, 1] := by kernel_rfl
theorem R30_4_l : List.range (regOf Try.f30 4).size = [0, 1, 2, 3, 4] := by kernel_rfl
theorem R30_5_l : List.range (regOf Try.f30 5).size = [0] := by kernel_rfl
theorem R30_6_l : List.range (regOf Try.f30 6).size = [0, 1, 2, 3] := by kernel_rfl
theorem R30_8_l : List.range (regOf Try.f30 8).size = [0, 1, 2, 3, 4, 5] := by kernel_rfl
theorem R30_9_l : List.range (regOf Try.f30 9).size = [0, 1, 2, 3] := by kernel_rfl
theorem R30_10_l : List.range (regOf Try.f30 10).size = [0, 1, 2, 3, 4, 5, 6] := by kernel_rfl
theorem R30_11_l : List.range (regOf Try.f30 11).size = [0, 1, 2, 3, 4, 5] := by kernel_rfl
theorem R30_12_l : List.range (regOf Try.f30 12).size = [0, 1, 2, 3] := by kernel_rfl
theorem R30_13_l : List.range (regOf Try.f30 13).size = [0, 1, 2, 3, 4, 5] := by kernel_rfl
theorem R30_14_l : List.range (regOf Try.f30 14).size = [0, 1, 2, 3, 4, 5, 6, 7, 8, 9, 10, 11, 12, 13] := by kernel_rfl
theorem R30_7_l : List.range (regOf Try.f30 7).size = [0, 1, 2] := by kernel_rfl
theorem R30_15_l : List.range (regOf Try.f30 15).size = [0, 1, 2, 3] := by kernel_rfl
theorem body30 : Try.f30.body = some (.seq (.region 0 (regOf Try.f30 0) false) (.seq (.region 1 (regOf Try.f30 1) false) (.seq (.seq (.region 2 (regOf Try.f30 2) false) (.cond (Operand.tmp 16) (.seq (.region 3 (regOf Try.f30 3) false) (.ret)) (.skip))) (.seq (.region 4 (regOf Try.f30 4) false) (.seq (.seq (.region 5 (regOf Try.f30 5) false) (.block 0 (.loop (.seq (.seq (.region 6 (regOf Try.f30 6) false) (.cond (Operand.tmp 24) (.skip) (.exit 0))) (.seq (.block 1 (.seq (.region 8 (regOf Try.f30 8) false) (.seq (.seq (.region 9 (regOf Try.f30 9) false) (.cond (Operand.tmp 34) (.exit 1) (.skip))) (.seq (.region 10 (regOf Try.f30 10) true) (.cond (Operand.tmp 41) (.seq (.region 11 (regOf Try.f30 11) false) (.region 12 (regOf Try.f30 12) false)) (.seq (.region 13 (regOf Try.f30 13) false) (.region 14 (regOf Try.f30 14) true))))))) (.region 7 (regOf Try.f30 7) false)))))) (.seq (.region 15 (regOf Try.f30 15) false) (.ret))))))) := by kernel_rfl
theorem p30_0_0 : pj (regOf Try.f30 0) 0 = some (some 4, .assign (.const (.slice none 0 0)), 35, none) := by kernel_rfl
theorem p30_0_1 : pj (regOf Try.f30 0) 1 = some (some 5, .assign (.const (.slice none 0 0)), 35, none) := by kernel_rfl
theorem p30_1_0 : pj (regOf Try.f30 1) 0 = some (some 6, .assign (.const (.slice none 0 0)), 35, none) := by kernel_rfl
theorem p30_1_1 : pj (regOf Try.f30 1) 1 = some (some 7, .assign (.const (.slice none 0 0)), 35, none) := by kernel_rfl
theorem p30_2_0 : pj (regOf Try.f30 2) 0 = some (some 11, .move (.tmp 1), 3, none) := by kernel_rfl
theorem p30_2_1 : pj (regOf Try.f30 2) 1 = some (some 12, .binOp .lss 3 (.tmp 11) (.const (.int .i64 0)) 3, 4, none) := by kernel_rfl
theorem p30_2_2 : pj (regOf Try.f30 2) 2 = some (some 13, .move (.tmp 12), 4, none) := by kernel_rfl
theorem p30_2_3 : pj (regOf Try.f30 2) 3 = some (some 14, .move (.tmp 1), 3, some (2, false)) := by kernel_rfl
theorem g30_2_2 : dstOf (regOf Try.f30 2) 2 = some 13 := by kernel_rfl
theorem p30_2_4 : pj (regOf Try.f30 2) 4 = some (some 15, .binOp .gtr 3 (.tmp 14) (.const (.int .i64 1152921504606846976)) 3, 4, some (2, false)) := by kernel_rfl
theorem p30_2_5 : pj (regOf Try.f30 2) 5 = some (some 16, .pick (.tmp 13) (.const (.bool true)) (.tmp 15), 4, none) := by kernel_rfl
theorem p30_3_0 : pj (regOf Try.f30 3) 0 = some (some 4, .assign (.const (.slice none 0 0)), 35, none) := by kernel_rfl
theorem p30_3_1 : pj (regOf Try.f30 3) 1 = some (some 5, .assign (.const (.slice none 0 0)), 35, none) := by kernel_rfl
theorem p30_4_0 : pj (regOf Try.f30 4) 0 = some (some 17, .move (.tmp 0), 63, none) := by kernel_rfl
theorem p30_4_1 : pj (regOf Try.f30 4) 1 = some (some 18, .nilCheck (.tmp 17), 0, none) := by kernel_rfl
theorem p30_4_2 : pj (regOf Try.f30 4) 2 = some (some 19, .fieldAddr 66 (.tmp 18) 2, 0, none) := by kernel_rfl
theorem p30_4_3 : pj (regOf Try.f30 4) 3 = some (some 20, .load 64 (.tmp 19), 64, none) := by kernel_rfl
theorem p30_4_4 : pj (regOf Try.f30 4) 4 = some (some 8, .assign (.tmp 20), 64, none) := by kernel_rfl
theorem p30_5_0 : pj (regOf Try.f30 5) 0 = some (some 9, .assign (.const (.int .i64 0)), 3, none) := by kernel_rfl
theorem p30_6_0 : pj (regOf Try.f30 6) 0 = some (some 21, .move (.tmp 9), 3, none) := by kernel_rfl
theorem p30_6_1 : pj (regOf Try.f30 6) 1 = some (some 22, .move (.tmp 8), 64, none) := by kernel_rfl
theorem p30_6_2 : pj (regOf Try.f30 6) 2 = some (some 23, .call { callee := .builtin .len, args := #[.tmp 22], argTypes := #[64] }, 3, none) := by kernel_rfl
theorem p30_6_3 : pj (regOf Try.f30 6) 3 = some (some 24, .binOp .lss 3 (.tmp 21) (.tmp 23) 3, 4, none) := by kernel_rfl
theorem p30_8_0 : pj (regOf Try.f30 8) 0 = some (some 27, .move (.tmp 8), 64, none) := by kernel_rfl
theorem p30_8_1 : pj (regOf Try.f30 8) 1 = some (some 28, .move (.tmp 9), 3, none) := by kernel_rfl
theorem p30_8_2 : pj (regOf Try.f30 8) 2 = some (some 29, .indexAddr 64 (.tmp 27) (.tmp 28), 0, none) := by kernel_rfl
theorem p30_8_3 : pj (regOf Try.f30 8) 3 = some (some 30, .load 70 (.tmp 29), 70, none) := by kernel_rfl
theorem tA70 : (Try.prog.underlying 70).map aggD = some true := by kernel_rfl
theorem p30_8_4 : pj (regOf Try.f30 8) 4 = some (some 10, .alloc 70, 0, none) := by kernel_rfl
theorem tZ70 : (Try.prog.info? 70).bind (·.zero) = some (Value.agg #[Value.int .i64 0, Value.int .i64 0, Value.int .i64 0]) := by kernel_rfl
theorem p30_8_5 : pj (regOf Try.f30 8) 5 = some (none, .store 70 (.tmp 10) (.tmp 30), 0, none) := by kernel_rfl
theorem p30_9_0 : pj (regOf Try.f30 9) 0 = some (some 31, .fieldAddr 70 (.tmp 10) 1, 0, none) := by kernel_rfl
theorem p30_9_1 : pj (regOf Try.f30 9) 1 = some (some 32, .load 3 (.tmp 31), 3, none) := by kernel_rfl
theorem p30_9_2 : pj (regOf Try.f30 9) 2 = some (some 33, .move (.tmp 1), 3, none) := by kernel_rfl
theorem p30_9_3 : pj (regOf Try.f30 9) 3 = some (some 34, .binOp .gtr 3 (.tmp 32) (.tmp 33) 3, 4, none) := by kernel_rfl
theorem p30_7_0 : pj (regOf Try.f30 7) 0 = some (some 25, .move (.tmp 9), 3, none) := by kernel_rfl
theorem p30_7_1 : pj (regOf Try.f30 7) 1 = some (some 26, .binOp .add 3 (.tmp 25) (.const (.int .i64 1)) 3, 3, none) := by kernel_rfl
theorem p30_7_2 : pj (regOf Try.f30 7) 2 = some (some 9, .assign (.tmp 26), 3, none) := by kernel_rfl
theorem ns30_10 : Region.noSelect (regOf Try.f30 10) = true := by kernel_rfl
theorem p30_10_0 : pj (regOf Try.f30 10) 0 = some (some 35, .fieldAddr 70 (.tmp 10) 2, 0, none) := by kernel_rfl
theorem p30_10_1 : pj (regOf Try.f30 10) 1 = some (some 36, .load 3 (.tmp 35), 3, none) := by kernel_rfl
theorem p30_10_2 : pj (regOf Try.f30 10) 2 = some (some 37, .move (.tmp 0), 63, none) := by kernel_rfl
theorem p30_10_3 : pj (regOf Try.f30 10) 3 = some (some 38, .nilCheck (.tmp 37), 0, none) := by kernel_rfl
theorem p30_10_4 : pj (regOf Try.f30 10) 4 = some (some 39, .fieldAddr 66 (.tmp 38) 1, 0, none) := by kernel_rfl
theorem p30_10_5 : pj (regOf Try.f30 10) 5 = some (some 40, .load 3 (.tmp 39), 3, none) := by kernel_rfl
theorem p30_10_6 : pj (regOf Try.f30 10) 6 = some (some 41, .binOp .geq 3 (.tmp 36) (.tmp 40) 3, 4, none) := by kernel_rfl
theorem p30_11_0 : pj (regOf Try.f30 11) 0 = some (some 42, .move (.tmp 7), 35, none) := by kernel_rfl
theorem p30_11_1 : pj (regOf Try.f30 11) 1 = some (some 43, .fieldAddr 70 (.tmp 10) 0, 0, none) := by kernel_rfl
theorem p30_11_2 : pj (regOf Try.f30 11) 2 = some (some 44, .load 3 (.tmp 43), 3, none) := by kernel_rfl
theorem p30_11_3 : pj (regOf Try.f30 11) 3 = some (some 45, .buildSlice 35 1 #[(0, .tmp 44)], 35, none) := by kernel_rfl
theorem p30_11_4 : pj (regOf Try.f30 11) 4 = some (some 46, .call { callee := .builtin .append, args := #[.tmp 42, .tmp 45], argTypes := #[35, 35] }, 35, none) := by kernel_rfl
theorem eD3 : elemD Try.prog 3 = some (1, 1, 8) := by kernel_rfl
theorem p30_11_5 : pj (regOf Try.f30 11) 5 = some (some 7, .assign (.tmp 46), 35, none) := by kernel_rfl
theorem p30_12_0 : pj (regOf Try.f30 12) 0 = some (some 47, .move (.tmp 0), 63, none) := by kernel_rfl
theorem p30_12_1 : pj (regOf Try.f30 12) 1 = some (some 48, .fieldAddr 70 (.tmp 10) 0, 0, none) := by kernel_rfl
theorem p30_12_2 : pj (regOf Try.f30 12) 2 = some (some 49, .load 3 (.tmp 48), 3, none) := by kernel_rfl
theorem p30_12_3 : pj (regOf Try.f30 12) 3 = some (some 50, .call { callee := .value (.func 29), args := #[.tmp 47, .tmp 49], argTypes := #[63, 3] }, 4, none) := by kernel_rfl
theorem p30_13_0 : pj (regOf Try.f30 13) 0 = some (some 51, .move (.tmp 6), 35, none) := by kernel_rfl
theorem p30_13_1 : pj (regOf Try.f30 13) 1 = some (some 52, .fieldAddr 70 (.tmp 10) 0, 0, none) := by kernel_rfl
theorem p30_13_2 : pj (regOf Try.f30 13) 2 = some (some 53, .load 3 (.tmp 52), 3, none) := by kernel_rfl
theorem p30_13_3 : pj (regOf Try.f30 13) 3 = some (some 54, .buildSlice 35 1 #[(0, .tmp 53)], 35, none) := by kernel_rfl
theorem p30_13_4 : pj (regOf Try.f30 13) 4 = some (some 55, .call { callee := .builtin .append, args := #[.tmp 51, .tmp 54], argTypes := #[35, 35] }, 35, none) := by kernel_rfl
theorem p30_13_5 : pj (regOf Try.f30 13) 5 = some (some 6, .assign (.tmp 55), 35, none) := by kernel_rfl
theorem ns30_14 : Region.noSelect (regOf Try.f30 14) = true := by kernel_rfl
theorem p30_14_0 : pj (regOf Try.f30 14) 0 = some (some 56, .move (.tmp 0), 63, none) := by kernel_rfl
theorem p30_14_1 : pj (regOf Try.f30 14) 1 = some (some 57, .fieldAddr 70 (.tmp 10) 0, 0, none) := by kernel_rfl
theorem p30_14_2 : pj (regOf Try.f30 14) 2 = some (some 58, .load 3 (.tmp 57), 3, none) := by kernel_rfl
theorem p30_14_3 : pj (regOf Try.f30 14) 3 = some (some 59, .move (.tmp 1), 3, none) := by kernel_rfl
theorem p30_14_4 : pj (regOf Try.f30 14) 4 = some (some 60, .move (.tmp 0), 63, none) := by kernel_rfl
theorem p30_14_5 : pj (regOf Try.f30 14) 5 = some (some 61, .nilCheck (.tmp 60), 0, none) := by kernel_rfl
theorem p30_14_6 : pj (regOf Try.f30 14) 6 = some (some 62, .fieldAddr 66 (.tmp 61) 0, 0, none) := by kernel_rfl
theorem p30_14_9 : pj (regOf Try.f30 14) 9 = some (some 65, .fieldAddr 70 (.tmp 10) 2, 0, none) := by kernel_rfl
theorem p30_14_10 : pj (regOf Try.f30 14) 10 = some (some 66, .load 3 (.tmp 65), 3, none) := by kernel_rfl
theorem p30_14_11 : pj (regOf Try.f30 14) 11 = some (some 67, .binOp .add 3 (.tmp 66) (.const (.int .i64 1)) 3, 3, none) := by kernel_rfl
theorem p30_14_7 : pj (regOf Try.f30 14) 7 = some (some 63, .load 3 (.tmp 62), 3, none) := by kernel_rfl
theorem p30_14_8 : pj (regOf Try.f30 14) 8 = some (some 64, .binOp .add 3 (.tmp 59) (.tmp 63) 3, 3, none) := by kernel_rfl
theorem p30_14_12 : pj (regOf Try.f30 14) 12 = some (some 68, .build 70 #[(0, .tmp 58), (1, .tmp 64), (2, .tmp 67)], 70, none) := by kernel_rfl
theorem p30_14_13 : pj (regOf Try.f30 14) 13 = some (some 69, .call { callee := .value (.func 44), args := #[.tmp 56, .tmp 68], argTypes := #[63, 70] }, 0, none) := by kernel_rfl
theorem p30_15_0 : pj (regOf Try.f30 15) 0 = some (some 70, .move (.tmp 6), 35, none) := by kernel_rfl
theorem p30_15_1 : pj (regOf Try.f30 15) 1 = some (some 71, .move (.tmp 7), 35, none) := by kernel_rfl
theorem p30_15_2 : pj (regOf Try.f30 15) 2 = some (some 4, .assign (.tmp 70), 35, none) := by kernel_rfl
theorem p30_15_3 : pj (regOf Try.f30 15) 3 = some (some 5, .assign (.tmp 71), 35, none) := by kernel_rfl
set_option maxHeartbeats 4000000 in
theorem rdue_any (gd : Nat) (A : Option Addr) (c : Nat) (L : List (Int × Int × Int)) (wt tr : Int) (now : Int) (hw : 0 ≤ wt ∧ wt ≤ 1048576) (htr : tr ≤ 16) (hok : OkL L) (hl2 : L.length ≤ 300) (w : World) (hd : w.heap[gd]? = some (.cells #[.int .i64 wt, .int .i64 tr, .slice A L.length c] 66 (0, 0))) (hR : Rv.RdV w A L.length 3 (flO L)) (hcA : L.length ≤ c ∧ (A = none → c = 0)) (hll : L.length ≤ 1000) (hnd : ¬ OB A gd) : Calls Try.prog 30 #[.pointer (some ⟨gd, 0, none⟩), .int .i64 now] w fun e w' => ∃ B1 c1 B2 c2 A' c', e = .returned (.tuple #[.slice B1 (dueR wt tr now L).again.length c1, .slice B2 (dueR wt tr now L).lost.length c2]) ∧ w'.ownsRow w.heap.size 3 1 (.slice B1 (dueR wt tr now L).again.length c1) (dueR wt tr now L).again.length (encs (Value.int .i64) (dueR wt tr now L).again) ∧ w'.ownsRow w.heap.size 3 1 (.slice B2 (dueR wt tr now L).lost.length c2) (dueR wt tr now L).lost.length (encs (Value.int .i64) (dueR wt tr now L).lost) ∧ (∀ k, OB B1 k → ¬ OB B2 k) ∧ w'.heap[gd]? = some (.cells #[.int .i64 wt, .int .i64 tr, .slice A' (dueR wt tr now L).l.length c'] 66 (0, 0)) ∧ Rv.RdV w' A' (dueR wt tr now L).l.length 3 (flO (dueR wt tr now L).l) ∧ ((dueR wt tr now L).l.length ≤ c' ∧ (A' = none → c' = 0)) ∧ (∀ k, OB A' k → OB A k ∨ w.heap.size ≤ k) ∧ Kp w w' (fun k => k = gd) := by
  have K_0 := Kp.refl w (fun k => k = gd)
  have B_gd := hd
  have O_L := hR
  have Nb_L_gd := hnd
  refine enter (args := [Value.pointer (some ⟨gd, 0, none⟩), Value.int .i64 now]) (n := 72) Try.func30 body30 rfl rfl rfl ?_
  intro a hE
  refine c_reg R30_0_l ?_
  refine q0 p30_0_0 hE (st_assign rfl) ?_
  clear hE a; intro a hE
  refine q0 p30_0_1 hE (st_assign rfl) ?_
  clear hE a; intro a hE
  refine p_nil ?_
  refine x_norm ?_
  refine c_reg R30_1_l ?_
  refine q0 p30_1_0 hE (st_assign rfl) ?_
  clear hE a; intro a hE
  refine q0 p30_1_1 hE (st_assign rfl) ?_
  clear hE a; intro a hE
  refine p_nil ?_
  refine x_norm ?_
  refine wp_seq ?_
  rcases Decidable.em (now < 0) with hA3 | hA3
  ·
    refine c_reg R30_2_l ?_
    refine q0 p30_2_0 hE (st_move rfl) ?_
    clear hE a; intro a hE
    refine q0 p30_2_1 hE (st_lss (b := true) rfl rfl (decide_eq_true hA3)) ?_
    clear hE a; intro a hE
    refine q0 p30_2_2 hE (st_move rfl) ?_
    clear hE a; intro a hE
    refine p_cons (s_skip p30_2_3 hE (wn_some g30_2_2 rfl rfl) rfl ?_)
    clear hE a; intro a hE
    refine p_cons (s_skip p30_2_4 hE (wn_some g30_2_2 rfl rfl) rfl ?_)
    clear hE a; intro a hE
    refine q0 p30_2_5 hE (st_pick rfl rfl) ?_
    clear hE a; intro a hE
    refine p_nil ?_
    refine x_norm ?_
    refine c_cond (t := true) hE rfl ?_
    refine c_reg R30_3_l ?_
    refine q0 p30_3_0 hE (st_assign rfl) ?_
    clear hE a; intro a hE
    refine q0 p30_3_1 hE (st_assign rfl) ?_
    clear hE a; intro a hE
    refine p_nil ?_
    refine x_norm ?_
    refine wp_ret ?_
    refine x_ret ?_
    refine ret_list (rs := [.tmp 4, .tmp 5]) (vs := [Value.slice none 0 0, Value.slice none 0 0]) rfl hE (.tmp rfl (.tmp rfl .nil)) rfl ?_
    have e0 : (dueR wt tr now L) = (⟨[], [], L⟩ : StR) := by unfold dueR; rw [show timeB now = false from decide_eq_false (by omega)]; rfl
    rw [e0]
    exact ⟨none, 0, none, 0, A, c, rfl, own_none _ _ _ _, own_none _ _ _ _, fun k h => absurd h ob_nil, B_gd, O_L, hcA, fun k h => .inl h, K_0⟩
  ·
    rcases Decidable.em (1152921504606846976 < now) with hA4 | hA4
    ·
      refine c_reg R30_2_l ?_
      refine q0 p30_2_0 hE (st_move rfl) ?_
      clear hE a; intro a hE
      refine q0 p30_2_1 hE (st_lss (b := false) rfl rfl (decide_eq_false hA3)) ?_
      clear hE a; intro a hE
      refine q0 p30_2_2 hE (st_move rfl) ?_
      clear hE a; intro a hE
      refine p_cons (s_still p30_2_3 hE (wn_some g30_2_2 rfl rfl) rfl (st_move rfl) ?_)
      clear hE a; intro a hE
      refine p_cons (s_still p30_2_4 hE (wn_some g30_2_2 rfl rfl) rfl (st_gtr (b := true) rfl rfl (decide_eq_true hA4)) ?_)
      clear hE a; intro a hE
      refine q0 p30_2_5 hE (st_pick rfl rfl) ?_
      clear hE a; intro a hE
      refine p_nil ?_
      refine x_norm ?_
      refine c_cond (t := true) hE rfl ?_
      refine c_reg R30_3_l ?_
      refine q0 p30_3_0 hE (st_assign rfl) ?_
      clear hE a; intro a hE
      refine q0 p30_3_1 hE (st_assign rfl) ?_
      clear hE a; intro a hE
      refine p_nil ?_
      refine x_norm ?_
      refine wp_ret ?_
      refine x_ret ?_
      refine ret_list (rs := [.tmp 4, .tmp 5]) (vs := [Value.slice none 0 0, Value.slice none 0 0]) rfl hE (.tmp rfl (.tmp rfl .nil)) rfl ?_
      have e0 : (dueR wt tr now L) = (⟨[], [], L⟩ : StR) := by unfold dueR; rw [show timeB now = false from decide_eq_false (by omega)]; rfl
      rw [e0]
      exact ⟨none, 0, none, 0, A, c, rfl, own_none _ _ _ _, own_none _ _ _ _, fun k h => absurd h ob_nil, B_gd, O_L, hcA, fun k h => .inl h, K_0⟩
    ·
      refine c_reg R30_2_l ?_
      refine q0 p30_2_0 hE (st_move rfl) ?_
      clear hE a; intro a hE
      refine q0 p30_2_1 hE (st_lss (b := false) rfl rfl (decide_eq_false hA3)) ?_
      clear hE a; intro a hE
      refine q0 p30_2_2 hE (st_move rfl) ?_
      clear hE a; intro a hE
      refine p_cons (s_still p30_2_3 hE (wn_some g30_2_2 rfl rfl) rfl (st_move rfl) ?_)
      clear hE a; intro a hE
      refine p_cons (s_still p30_2_4 hE (wn_some g30_2_2 rfl rfl) rfl (st_gtr (b := false) rfl rfl (decide_eq_false hA4)) ?_)
      clear hE a; intro a hE
      refine q0 p30_2_5 hE (st_pick rfl rfl) ?_
      clear hE a; intro a hE
      refine p_nil ?_
      refine x_norm ?_
      refine c_cond (t := false) hE rfl ?_
      refine wp_skip ?_
      refine x_norm ?_
      refine c_reg R30_4_l ?_
      refine q0 p30_4_0 hE (st_move rfl) ?_
      clear hE a; intro a hE
      refine q0 p30_4_1 hE (st_nil rfl) ?_
      clear hE a; intro a hE
      refine q0 p30_4_2 hE (st_fieldAddr Try.underlying66 rfl tS64 rfl rfl) ?_
      clear hE a; intro a hE
      refine q0 p30_4_3 hE (st_load1 tA64 rfl ((blk_cell B_gd 2).trans rfl)) ?_
      clear hE a; intro a hE
      refine q0 p30_4_4 hE (st_assign rfl) ?_
      clear hE a; intro a hE
      refine p_nil ?_
      refine x_norm ?_
      refine wp_seq ?_
      refine c_reg R30_5_l ?_
      refine q0 p30_5_0 hE (st_assign rfl) ?_
      clear hE a; intro a hE
      refine p_nil ?_
      refine x_norm ?_
      refine wp_block ?_
      have O_again := own_none w w.heap.size 3 1
      have Nb_again_gd : ¬ OB none gd := ob_nil
      have Z_0_again : ∀ k, OB none k → (fun k => k = gd) k ∨ w.heap.size ≤ k := fun k h => absurd h ob_nil
      have NN_again_L : ∀ k, OB none k → ¬ OB A k := fun k h => absurd h ob_nil
      have NN_L_again : ∀ k, OB A k → ¬ OB none k := fun k h h2 => NN_again_L k h2 h
      have O_lost := own_none w w.heap.size 3 1
      have Nb_lost_gd : ¬ OB none gd := ob_nil
      have Z_0_lost : ∀ k, OB none k → (fun k => k = gd) k ∨ w.heap.size ≤ k := fun k h => absurd h ob_nil
      have NN_lost_L : ∀ k, OB none k → ¬ OB A k := fun k h => absurd h ob_nil
      have NN_L_lost : ∀ k, OB A k → ¬ OB none k := fun k h h2 => NN_lost_L k h2 h
      have NN_lost_again : ∀ k, OB none k → ¬ OB none k := fun k h => absurd h ob_nil
      have NN_again_lost : ∀ k, OB none k → ¬ OB none k := fun k h h2 => NN_lost_again k h2 h
      have NN_L_again : ∀ k, OB A k → ¬ OB none k := fun k _ h => absurd h ob_nil
      have NN_L_lost : ∀ k, OB A k → ¬ OB none k := fun k _ h => absurd h ob_nil
      have O_M := O_L
      have Nb_M_gd := Nb_L_gd
      have NN_M_again := NN_L_again
      have NN_M_lost := NN_L_lost
      have NN_again_M := NN_again_L
      have NN_lost_M := NN_lost_L
      have hc_M := hcA
      refine c_loop (α := Nat) (fun j a W => ∃ (A_again : Option Addr) (c_again : Nat) (n_again : Nat), ∃ (A_lost : Option Addr) (c_lost : Nat) (n_lost : Nat), ∃ (A_M : Option Addr) (c_M : Nat) (n_M : Nat), ∃ (q : StR), En 72 a [(0, Value.pointer (some ⟨gd, 0, none⟩)), (1, Value.int .i64 now), (4, Value.slice none 0 0), (5, Value.slice none 0 0), (16, Value.bool false), (8, Value.slice A L.length c), (9, Value.int .i64 (j : Int)), (6, Value.slice A_again n_again c_again), (7, Value.slice A_lost n_lost c_lost)] ∧ j ≤ L.length ∧ n_M = q.l.length ∧ (q.l.length ≤ c_M ∧ (A_M = none → c_M = 0)) ∧ q = (L.take j).foldl (stepR wt tr now) (⟨[], [], L⟩ : StR) ∧ q.l.length ≤ L.length + j ∧ q.again.length ≤ j ∧ q.lost.length ≤ j ∧ ((∀ k, OB A_M k → OB A k ∨ w.heap.size ≤ k)) ∧ W.heap[gd]? = some (.cells #[Value.int .i64 wt, Value.int .i64 tr, Value.slice A_M n_M c_M] 66 (0, 0)) ∧ Rv.RdV W A L.length 3 (flO L) ∧ ¬ OB A gd ∧ (∀ k, OB A k → ¬ OB A_again k) ∧ (∀ k, OB A k → ¬ OB A_lost k) ∧ n_again = q.again.length ∧ W.ownsRow w.heap.size 3 1 (.slice A_again n_again c_again) n_again (encs (Value.int .i64) q.again) ∧ ¬ OB A_again gd ∧ (∀ k, OB A_again k → (fun k => k = gd) k ∨ w.heap.size ≤ k) ∧ (∀ k, OB A_again k → ¬ OB A k) ∧ (∀ k, OB A_again k → ¬ OB A_lost k) ∧ (∀ k, OB A_again k → ¬ OB A_M k) ∧ n_lost = q.lost.length ∧ W.ownsRow w.heap.size 3 1 (.slice A_lost n_lost c_lost) n_lost (encs (Value.int .i64) q.lost) ∧ ¬ OB A_lost gd ∧ (∀ k, OB A_lost k → (fun k => k = gd) k ∨ w.heap.size ≤ k) ∧ (∀ k, OB A_lost k → ¬ OB A k) ∧ (∀ k, OB A_lost k → ¬ OB A_again k) ∧ (∀ k, OB A_lost k → ¬ OB A_M k) ∧ Rv.RdV W A_M n_M 3 (flO q.l) ∧ ¬ OB A_M gd ∧ (∀ k, OB A_M k → ¬ OB A_again k) ∧ (∀ k, OB A_M k → ¬ OB A_lost k) ∧ Kp w W (fun k => k = gd)) (fun j => L.length - j) (0) ?_ ?_
      ·
        exact ⟨none, 0, 0, none, 0, 0, A, c, L.length, (⟨[], [], L⟩ : StR), En.sub hE ⟨rfl, rfl, rfl, rfl, rfl, rfl, rfl, rfl, rfl, trivial⟩, Nat.zero_le _, rfl, hc_M, rfl, Nat.le_refl _, Nat.le_refl _, Nat.le_refl _, (fun k h => .inl h), B_gd, O_L, Nb_L_gd, NN_L_again, NN_L_lost, rfl, O_again, Nb_again_gd, Z_0_again, NN_again_L, NN_again_lost, NN_again_M, rfl, O_lost, Nb_lost_gd, Z_0_lost, NN_lost_L, NN_lost_again, NN_lost_M, O_M, Nb_M_gd, NN_M_again, NN_M_lost, K_0⟩
      ·
        clear hE a
        rintro j a w1 ⟨A_again, c_again, n_again, A_lost, c_lost, n_lost, A_M, c_M, n_M, q, hE, hj9, hnM, hc_M, hq, hml, hna, hnl, hgM, B_gd, O_L, Nb_L_gd, NN_L_again, NN_L_lost, hn_again, O_again, Nb_again_gd, Z_0_again, NN_again_L, NN_again_lost, NN_again_M, hn_lost, O_lost, Nb_lost_gd, Z_0_lost, NN_lost_L, NN_lost_again, NN_lost_M, O_M, Nb_M_gd, NN_M_again, NN_M_lost, K_0⟩
        refine wp_seq ?_
        subst hnM
        rcases Decidable.em ((j : Int) < (L.length : Int)) with hK1 | hK1
        ·
          refine c_reg R30_6_l ?_
          refine q0 p30_6_0 hE (st_move rfl) ?_
          clear hE a; intro a hE
          refine q0 p30_6_1 hE (st_move rfl) ?_
          clear hE a; intro a hE
          refine q0 p30_6_2 hE (st_len Try.underlying64 rfl) ?_
          clear hE a; intro a hE
          refine q0 p30_6_3 hE (st_lss (b := true) rfl rfl (decide_eq_true hK1)) ?_
          clear hE a; intro a hE
          refine p_nil ?_
          refine x_norm ?_
          refine c_cond (t := true) hE rfl ?_
          refine wp_skip ?_
          refine x_norm ?_
          refine wp_seq ?_
          refine wp_block ?_
          refine c_reg R30_8_l ?_
          obtain ⟨o, hx⟩ : ∃ o, L[j]? = some o := ⟨_, List.getElem?_eq_getElem (by omega)⟩
          have hob := hok o (List.mem_of_getElem? hx)
          have hAeo := (Rv.rdv_elem (fl := fl3) O_L (by decide) (fun _ => rfl) hx).1
          refine q0 p30_8_0 hE (st_move rfl) ?_
          clear hE a; intro a hE
          refine q0 p30_8_1 hE (st_move rfl) ?_
          clear hE a; intro a hE
          refine q0 p30_8_2 hE (st_indexAddrR (i := j) (s := 3) Try.underlying64 tS70 hAeo rfl rfl (by omega)) ?_
          clear hE a; intro a hE
          refine q0 p30_8_3 hE (st_loadR (off := j * 3) (j := 0) (k := 3) (vs := [Value.int .i64 o.1, Value.int .i64 o.2.1, Value.int .i64 o.2.2]) tA70 tS70 (Rv.rdv_elem (fl := fl3) O_L (by decide) (fun _ => rfl) hx).2 rfl rfl (by omega) rfl) ?_
          clear hE a; intro a hE
          refine p_cons (s_alloc p30_8_4 hE wn_none rfl tZ70 ?_)
          clear hE a; intro g2 w3 z4 B_g2 hk a hE
          replace B_g2 : w3.heap[g2]? = some (.cells #[Value.int .i64 0, Value.int .i64 0, Value.int .i64 0] 70 (0, 0)) := B_g2
          have n_gd_g2 : gd ≠ g2 := ne_new B_gd z4
          have z_0_g2 := Nat.le_trans K_0.kept.1 z4
          have Nb_L_g2 : ¬ OB A g2 := fun h => by have := (Rv.rdv_ob O_L h).2; omega
          have Nb_again_g2 : ¬ OB A_again g2 := fun h => by have := (own_ob O_again h).2; omega
          have Nb_lost_g2 : ¬ OB A_lost g2 := fun h => by have := (own_ob O_lost h).2; omega
          have Nb_M_g2 : ¬ OB A_M g2 := fun h => by have := (Rv.rdv_ob O_M h).2; omega
          replace B_gd := kp_blk B_gd hk (fun h => h)
          replace O_L := Rv.rdv_keep O_L hk (fun _ _ h => h)
          replace O_again := own_keep O_again hk (fun _ _ h => h)
          replace O_lost := own_keep O_lost hk (fun _ _ h => h)
          replace O_M := Rv.rdv_keep O_M hk (fun _ _ h => h)
          replace K_0 := K_0.then_ hk (fun _ h => h.elim)
          clear hk
          refine p_cons (s_store (off := 0) (k := 3) (cs' := #[Value.int .i64 o.1, Value.int .i64 o.2.1, Value.int .i64 o.2.2]) p30_8_5 hE wn_none tS70 rfl rfl rfl rfl B_g2 (Nat.le_of_ble_eq_true rfl) rfl ?_)
          intro w5 B_g2' hk
          replace B_gd := kp_blk B_gd hk n_gd_g2
          replace O_L := Rv.rdv_keep O_L hk (fun k hk2 h2 => Nb_L_g2 (by rw [show k = g2 from h2] at hk2; exact hk2))
          replace O_again := own_keep O_again hk (fun k hk2 h2 => Nb_again_g2 (by rw [show k = g2 from h2] at hk2; exact hk2))
          replace O_lost := own_keep O_lost hk (fun k hk2 h2 => Nb_lost_g2 (by rw [show k = g2 from h2] at hk2; exact hk2))
          replace O_M := Rv.rdv_keep O_M hk (fun k hk2 h2 => Nb_M_g2 (by rw [show k = g2 from h2] at hk2; exact hk2))
          replace K_0 := K_0.then_ hk (fun k h => by rw [show k = g2 from h]; exact Or.inr z_0_g2)
          replace B_g2 := B_g2'
          clear hk
          refine p_nil ?_
          refine x_norm ?_
          refine wp_seq ?_
          rcases Decidable.em (now < o.2.1) with hLATE | hLATE
          ·
            refine c_reg R30_9_l ?_
            refine q0 p30_9_0 hE (st_fieldAddr Try.underlying70 rfl tS3 rfl rfl) ?_
            clear hE a; intro a hE
            refine q0 p30_9_1 hE (st_load1 tA3 rfl ((blk_cell B_g2 1).trans rfl)) ?_
            clear hE a; intro a hE
            refine q0 p30_9_2 hE (st_move rfl) ?_
            clear hE a; intro a hE
            refine q0 p30_9_3 hE (st_gtr (b := true) rfl rfl (decide_eq_true hLATE)) ?_
            clear hE a; intro a hE
            refine p_nil ?_
            refine x_norm ?_
            refine c_cond (t := true) hE rfl ?_
            refine wp_exit ?_
            refine x_exit ?_
            refine x_in ?_
            refine x_norm ?_
            refine c_regL R30_7_l ?_
            refine q0 p30_7_0 hE (st_move rfl) ?_
            clear hE a; intro a hE
            refine q0 p30_7_1 hE (st_add (z := (j : Int) + 1) rfl rfl (wr_i64 _ (by omega) (by omega))) ?_
            clear hE a; intro a hE
            refine q0 p30_7_2 hE (st_assign rfl) ?_
            clear hE a; intro a hE
            refine p_nil ?_
            refine x_norm ?_
            have hgM9 := hgM
            have hq9 : q = (L.take (j + 1)).foldl (stepR wt tr now) (⟨[], [], L⟩ : StR) := by rw [foldl_next _ _ hx, ← hq]; unfold stepR; rw [if_pos hLATE]
            have hml9 : q.l.length ≤ L.length + (j + 1) := by exact Nat.le_succ_of_le hml
            have hna9 : q.again.length ≤ j + 1 := by exact Nat.le_succ_of_le hna
            have hnl9 : q.lost.length ≤ j + 1 := by exact Nat.le_succ_of_le hnl
            have hln_again : n_again = q.again.length := by exact hn_again
            have hln_lost : n_lost = q.lost.length := by exact hn_lost
            exact ⟨j + 1, by omega, A_again, c_again, n_again, A_lost, c_lost, n_lost, A_M, c_M, q.l.length, q, En.sub hE ⟨rfl, rfl, rfl, rfl, rfl, rfl, rfl, rfl, rfl, trivial⟩, by omega, rfl, hc_M, hq9, hml9, hna9, hnl9, hgM9, B_gd, O_L, Nb_L_gd, NN_L_again, NN_L_lost, (by first | exact hln_again | exact hln_lost), O_again, Nb_again_gd, Z_0_again, NN_again_L, NN_again_lost, NN_again_M, (by first | exact hln_again | exact hln_lost), O_lost, Nb_lost_gd, Z_0_lost, NN_lost_L, NN_lost_again, NN_lost_M, O_M, Nb_M_gd, NN_M_again, NN_M_lost, K_0⟩
          ·
            refine c_reg R30_9_l ?_
            refine q0 p30_9_0 hE (st_fieldAddr Try.underlying70 rfl tS3 rfl rfl) ?_
            clear hE a; intro a hE
            refine q0 p30_9_1 hE (st_load1 tA3 rfl ((blk_cell B_g2 1).trans rfl)) ?_
            clear hE a; intro a hE
            refine q0 p30_9_2 hE (st_move rfl) ?_
            clear hE a; intro a hE
            refine q0 p30_9_3 hE (st_gtr (b := false) rfl rfl (decide_eq_false hLATE)) ?_
            clear hE a; intro a hE
            refine p_nil ?_
            refine x_norm ?_
            refine c_cond (t := false) hE rfl ?_
            refine wp_skip ?_
            refine x_norm ?_
            rcases Decidable.em (tr ≤ o.2.2) with hOVER | hOVER
            ·
              refine c_drawS (S := fun W => W.heap[gd]? = some (.cells #[Value.int .i64 wt, Value.int .i64 tr, Value.slice A_M q.l.length c_M] 66 (0, 0)) ∧ W.heap[g2]? = some (.cells #[Value.int .i64 o.1, Value.int .i64 o.2.1, Value.int .i64 o.2.2] 70 (0, 0)) ∧ True) rfl rfl (listed := #[false, false, false, false, false, false, false]) rfl ?_
              intro w6 hh hk
              replace B_gd := kp_blk B_gd hk (fun h => h)
              replace B_g2 := kp_blk B_g2 hk (fun h => h)
              replace O_L := Rv.rdv_keep O_L hk (fun _ _ h => h)
              replace O_again := own_keep O_again hk (fun _ _ h => h)
              replace O_lost := own_keep O_lost hk (fun _ _ h => h)
              replace O_M := Rv.rdv_keep O_M hk (fun _ _ h => h)
              replace K_0 := K_0.then_ hk (fun _ h => h.elim)
              clear hh hk
              refine d_take (v := Value.pointer (some ⟨g2, 2, none⟩)) p30_10_0 ns30_10 (by kernel_rfl) (by kernel_rfl) (fun _ _ _ h => h) hE wn_none rfl ⟨B_gd, B_g2, trivial⟩ (fun W hS => (st_fieldAddr Try.underlying70 rfl tS3 rfl rfl)) rfl ?_
              clear hE a; intro a hE
              refine d_take (v := Value.int .i64 o.2.2) p30_10_1 ns30_10 (by kernel_rfl) (by kernel_rfl) (fun _ _ _ h => h) hE wn_none rfl ⟨B_gd, B_g2, trivial⟩ (fun W hS => (st_load1 tA3 rfl ((blk_cell hS.2.1 2).trans rfl))) rfl ?_
              clear hE a; intro a hE
              refine d_take (v := Value.pointer (some ⟨gd, 0, none⟩)) p30_10_2 ns30_10 (by kernel_rfl) (by kernel_rfl) (fun _ _ _ h => h) hE wn_none rfl ⟨B_gd, B_g2, trivial⟩ (fun W hS => (st_move rfl)) rfl ?_
              clear hE a; intro a hE
              refine d_take (v := Value.pointer (some ⟨gd, 0, none⟩)) p30_10_3 ns30_10 (by kernel_rfl) (by kernel_rfl) (fun _ _ _ h => h) hE wn_none rfl ⟨B_gd, B_g2, trivial⟩ (fun W hS => (st_nil rfl)) rfl ?_
              clear hE a; intro a hE
              refine d_take (v := Value.pointer (some ⟨gd, 1, none⟩)) p30_10_4 ns30_10 (by kernel_rfl) (by kernel_rfl) (fun _ _ _ h => h) hE wn_none rfl ⟨B_gd, B_g2, trivial⟩ (fun W hS => (st_fieldAddr Try.underlying66 rfl tS3 rfl rfl)) rfl ?_
              clear hE a; intro a hE
              refine d_take (v := Value.int .i64 tr) p30_10_5 ns30_10 (by kernel_rfl) (by kernel_rfl) (fun _ _ _ h => h) hE wn_none rfl ⟨B_gd, B_g2, trivial⟩ (fun W hS => (st_load1 tA3 rfl ((blk_cell hS.1 1).trans rfl))) rfl ?_
              clear hE a; intro a hE
              refine d_take (v := Value.bool true) p30_10_6 ns30_10 (by kernel_rfl) (by kernel_rfl) (fun _ _ _ h => h) hE wn_none rfl ⟨B_gd, B_g2, trivial⟩ (fun W hS => (st_geq (b := true) rfl rfl (decide_eq_true hOVER))) rfl ?_
              clear hE a; intro a hE
              refine d_end (by kernel_rfl) ?_
              refine x_norm ?_
              refine c_cond (t := true) hE rfl ?_
              refine c_reg R30_11_l ?_
              refine q0 p30_11_0 hE (st_move rfl) ?_
              clear hE a; intro a hE
              refine q0 p30_11_1 hE (st_fieldAddr Try.underlying70 rfl tS3 rfl rfl) ?_
              clear hE a; intro a hE
              refine q0 p30_11_2 hE (st_load1 tA3 rfl ((blk_cell B_g2 0).trans rfl)) ?_
              clear hE a; intro a hE
              refine p_cons (s_row (xs := [(0, Operand.tmp 44)]) (vs := [(0, Value.int .i64 o.1)]) (cs := #[Value.int .i64 o.1]) p30_11_3 hE wn_none rfl Try.underlying35 rfl (by kernel_rfl) ?_)
              clear hE a; intro g7 w8 z9 B_g7 hk a hE
              have n_gd_g7 : gd ≠ g7 := ne_new B_gd z9
              have n_g2_g7 : g2 ≠ g7 := ne_new B_g2 z9
              have z_0_g7 := Nat.le_trans K_0.kept.1 z9
              have Nb_L_g7 : ¬ OB A g7 := fun h => by have := (Rv.rdv_ob O_L h).2; omega
              have Nb_again_g7 : ¬ OB A_again g7 := fun h => by have := (own_ob O_again h).2; omega
              have Nb_lost_g7 : ¬ OB A_lost g7 := fun h => by have := (own_ob O_lost h).2; omega
              have Nb_M_g7 : ¬ OB A_M g7 := fun h => by have := (Rv.rdv_ob O_M h).2; omega
              replace B_gd := kp_blk B_gd hk (fun h => h)
              replace B_g2 := kp_blk B_g2 hk (fun h => h)
              replace O_L := Rv.rdv_keep O_L hk (fun _ _ h => h)
              replace O_again := own_keep O_again hk (fun _ _ h => h)
              replace O_lost := own_keep O_lost hk (fun _ _ h => h)
              replace O_M := Rv.rdv_keep O_M hk (fun _ _ h => h)
              replace K_0 := K_0.then_ hk (fun _ h => h.elim)
              clear hk
              refine p_cons (s_appendC (xs := q.lost) (ys := [o.1]) p30_11_4 hE wn_none rfl Try.underlying35 eD3 rfl O_lost rfl (C_blk (k := .i64) (l := [o.1]) (off := 0) B_g7 ⟨rfl, Nat.le_of_ble_eq_true rfl⟩ rfl) (by omega) (by omega) K_0.kept.1 ?_)
              clear hE a; intro Alost10 clost11 w12 O_lost' hk hat a hE
              have Nb_lost_gd' := grow_n Nb_lost_gd (blk_lt B_gd) hat
              have Nb_lost_g2' := grow_n Nb_lost_g2 (blk_lt B_g2) hat
              have Nb_lost_g7' := grow_n Nb_lost_g7 (blk_lt B_g7) hat
              have NN_L_lost' : ∀ k, OB A k → ¬ OB Alost10 k := fun k h h2 => (hat k h2).elim (NN_L_lost k h) (fun h3 => by have := (Rv.rdv_ob O_L h).2; omega)
              have NN_again_lost' : ∀ k, OB A_again k → ¬ OB Alost10 k := fun k h h2 => (hat k h2).elim (NN_again_lost k h) (fun h3 => by have := (own_ob O_again h).2; omega)
              have NN_M_lost' : ∀ k, OB A_M k → ¬ OB Alost10 k := fun k h h2 => (hat k h2).elim (NN_M_lost k h) (fun h3 => by have := (Rv.rdv_ob O_M h).2; omega)
              have Z_0_lost' := grow_z Z_0_lost K_0.kept.1 hat
              replace B_gd := kp_blk B_gd hk Nb_lost_gd
              replace B_g2 := kp_blk B_g2 hk Nb_lost_g2
              replace B_g7 := kp_blk B_g7 hk Nb_lost_g7
              replace O_L := Rv.rdv_keep O_L hk NN_L_lost
              replace O_again := own_keep O_again hk NN_again_lost
              replace O_M := Rv.rdv_keep O_M hk NN_M_lost
              replace K_0 := K_0.then_ hk Z_0_lost
              replace Nb_lost_gd := Nb_lost_gd'
              replace Nb_lost_g2 := Nb_lost_g2'
              replace Nb_lost_g7 := Nb_lost_g7'
              replace NN_L_lost := NN_L_lost'
              replace NN_lost_L : ∀ k, OB Alost10 k → ¬ OB A k := fun k h h2 => NN_L_lost k h2 h
              replace NN_again_lost := NN_again_lost'
              replace NN_lost_again : ∀ k, OB Alost10 k → ¬ OB A_again k := fun k h h2 => NN_again_lost k h2 h
              replace NN_M_lost := NN_M_lost'
              replace NN_lost_M : ∀ k, OB Alost10 k → ¬ OB A_M k := fun k h h2 => NN_M_lost k h2 h
              replace Z_0_lost := Z_0_lost'
              replace O_lost : w12.ownsRow _ 3 1 (.slice Alost10 (n_lost + 1) clost11) (n_lost + 1) (encs (Value.int .i64) (q.lost ++ [o.1])) := O_lost'
              clear O_lost' hk hat
              refine q0 p30_11_5 hE (st_assign rfl) ?_
              clear hE a; intro a hE
              refine p_nil ?_
              refine x_norm ?_
              refine c_regL R30_12_l ?_
              refine q0 p30_12_0 hE (st_move rfl) ?_
              clear hE a; intro a hE
              refine q0 p30_12_1 hE (st_fieldAddr Try.underlying70 rfl tS3 rfl rfl) ?_
              clear hE a; intro a hE
              refine q0 p30_12_2 hE (st_load1 tA3 rfl ((blk_cell B_g2 0).trans rfl)) ?_
              clear hE a; intro a hE
              have hnb_gd := blk_lt B_gd
              have hnb_g2 := blk_lt B_g2
              have hnb_g7 := blk_lt B_g7
              have hno_again := fun k (h : OB A_again k) => (own_ob O_again h).2
              have hno_lost := fun k (h : OB Alost10 k) => (own_ob O_lost h).2
              have hkz9 := K_0.kept.1
              refine p_cons (s_call (xs := [Operand.tmp 47, Operand.tmp 49]) (args := [Value.pointer (some ⟨gd, 0, none⟩), Value.int .i64 o.1]) p30_12_3 hE wn_none rfl rfl Try.func29 cl29 (rack_any gd A_M c_M q.l wt tr o.1 _ B_gd O_M hc_M (by omega) Nb_M_gd) ?_)
              rintro e w15 ⟨AM213, cM214, rfl, B_gd', O_M2, hc_M2, hg9, hk⟩
              replace B_g2 := kp_blk B_g2 hk (Ne.symm n_gd_g2)
              replace B_g7 := kp_blk B_g7 hk (Ne.symm n_gd_g7)
              replace O_L := Rv.rdv_keep O_L hk (fun k hk2 h2 => Nb_L_gd (by rw [show k = gd from h2] at hk2; exact hk2))
              replace O_again := own_keep O_again hk (fun k hk2 h2 => Nb_again_gd (by rw [show k = gd from h2] at hk2; exact hk2))
              replace O_lost := own_keep O_lost hk (fun k hk2 h2 => Nb_lost_gd (by rw [show k = gd from h2] at hk2; exact hk2))
              replace O_M := Rv.rdv_keep O_M hk (fun k hk2 h2 => Nb_M_gd (by rw [show k = gd from h2] at hk2; exact hk2))
              replace K_0 := K_0.then_ hk (fun k h => by rw [show k = gd from h]; exact Or.inl rfl)
              replace B_gd := B_gd'
              have Nb_M2_gd : ¬ OB AM213 gd := fun h => (hg9 _ h).elim Nb_M_gd (fun h2 => by have := hnb_gd; omega)
              have Nb_M2_g2 : ¬ OB AM213 g2 := fun h => (hg9 _ h).elim Nb_M_g2 (fun h2 => by have := hnb_g2; omega)
              have Nb_M2_g7 : ¬ OB AM213 g7 := fun h => (hg9 _ h).elim Nb_M_g7 (fun h2 => by have := hnb_g7; omega)
              have NN_M2_again : ∀ k, OB AM213 k → ¬ OB A_again k := fun k h h2 => (hg9 _ h).elim (fun h3 => NN_M_again k h3 h2) (fun h3 => by have := hno_again k h2; omega)
              have NN_again_M2 : ∀ k, OB A_again k → ¬ OB AM213 k := fun k h h2 => NN_M2_again k h2 h
              have NN_M2_lost : ∀ k, OB AM213 k → ¬ OB Alost10 k := fun k h h2 => (hg9 _ h).elim (fun h3 => NN_M_lost k h3 h2) (fun h3 => by have := hno_lost k h2; omega)
              have NN_lost_M2 : ∀ k, OB Alost10 k → ¬ OB AM213 k := fun k h h2 => NN_M2_lost k h2 h
              refine ⟨_, rfl, ?_⟩
              clear hE a; intro a hE
              refine p_nil ?_
              refine x_normB ?_
              refine x_norm ?_
              refine c_regL R30_7_l ?_
              refine q0 p30_7_0 hE (st_move rfl) ?_
              clear hE a; intro a hE
              refine q0 p30_7_1 hE (st_add (z := (j : Int) + 1) rfl rfl (wr_i64 _ (by omega) (by omega))) ?_
              clear hE a; intro a hE
              refine q0 p30_7_2 hE (st_assign rfl) ?_
              clear hE a; intro a hE
              refine p_nil ?_
              refine x_norm ?_
              have O_M := O_M2
              have hc_M := hc_M2
              have Nb_M_gd := Nb_M2_gd
              have Nb_M_g2 := Nb_M2_g2
              have Nb_M_g7 := Nb_M2_g7
              have NN_M_again := NN_M2_again
              have NN_again_M := NN_again_M2
              have NN_M_lost := NN_M2_lost
              have NN_lost_M := NN_lost_M2
              have hgM9 : ∀ k, OB AM213 k → OB A k ∨ w.heap.size ≤ k := fun k h => (hg9 k h).elim (fun h => hgM k h) (fun h => .inr (Nat.le_trans hkz9 h))
              have hq9 : (⟨q.again, q.lost ++ [o.1], rmL q.l o.1⟩ : StR) = (L.take (j + 1)).foldl (stepR wt tr now) (⟨[], [], L⟩ : StR) := by rw [foldl_next _ _ hx, ← hq]; unfold stepR; rw [if_neg hLATE, if_pos hOVER]
              have hml9 : (⟨q.again, q.lost ++ [o.1], rmL q.l o.1⟩ : StR).l.length ≤ L.length + (j + 1) := by show (rmL q.l o.1).length ≤ _; have := rm_len q.l o.1; omega
              have hna9 : (⟨q.again, q.lost ++ [o.1], rmL q.l o.1⟩ : StR).again.length ≤ j + 1 := by exact Nat.le_succ_of_le hna
              have hnl9 : (⟨q.again, q.lost ++ [o.1], rmL q.l o.1⟩ : StR).lost.length ≤ j + 1 := by show (q.lost ++ [o.1]).length ≤ _; rw [List.length_append]; show q.lost.length + 1 ≤ _; omega
              have hln_again : n_again = (⟨q.again, q.lost ++ [o.1], rmL q.l o.1⟩ : StR).again.length := by exact hn_again
              have hln_lost : (n_lost + 1) = (⟨q.again, q.lost ++ [o.1], rmL q.l o.1⟩ : StR).lost.length := by show _ = (q.lost ++ [o.1]).length; rw [List.length_append, ← hn_lost]; rfl
              exact ⟨j + 1, by omega, A_again, c_again, n_again, Alost10, clost11, (n_lost + 1), AM213, cM214, (rmL q.l o.1).length, (⟨q.again, q.lost ++ [o.1], rmL q.l o.1⟩ : StR), En.sub hE ⟨rfl, rfl, rfl, rfl, rfl, rfl, rfl, rfl, rfl, trivial⟩, by omega, rfl, hc_M, hq9, hml9, hna9, hnl9, hgM9, B_gd, O_L, Nb_L_gd, NN_L_again, NN_L_lost, (by first | exact hln_again | exact hln_lost), O_again, Nb_again_gd, Z_0_again, NN_again_L, NN_again_lost, NN_again_M, (by first | exact hln_again | exact hln_lost), O_lost, Nb_lost_gd, Z_0_lost, NN_lost_L, NN_lost_again, NN_lost_M, O_M, Nb_M_gd, NN_M_again, NN_M_lost, K_0⟩
            ·
              refine c_drawS (S := fun W => W.heap[gd]? = some (.cells #[Value.int .i64 wt, Value.int .i64 tr, Value.slice A_M q.l.length c_M] 66 (0, 0)) ∧ W.heap[g2]? = some (.cells #[Value.int .i64 o.1, Value.int .i64 o.2.1, Value.int .i64 o.2.2] 70 (0, 0)) ∧ True) rfl rfl (listed := #[false, false, false, false, false, false, false]) rfl ?_
              intro w16 hh hk
              replace B_gd := kp_blk B_gd hk (fun h => h)
              replace B_g2 := kp_blk B_g2 hk (fun h => h)
              replace O_L := Rv.rdv_keep O_L hk (fun _ _ h => h)
              replace O_again := own_keep O_again hk (fun _ _ h => h)
              replace O_lost := own_keep O_lost hk (fun _ _ h => h)
              replace O_M := Rv.rdv_keep O_M hk (fun _ _ h => h)
              replace K_0 := K_0.then_ hk (fun _ h => h.elim)
              clear hh hk
              refine d_take (v := Value.pointer (some ⟨g2, 2, none⟩)) p30_10_0 ns30_10 (by kernel_rfl) (by kernel_rfl) (fun _ _ _ h => h) hE wn_none rfl ⟨B_gd, B_g2, trivial⟩ (fun W hS => (st_fieldAddr Try.underlying70 rfl tS3 rfl rfl)) rfl ?_
              clear hE a; intro a hE
              refine d_take (v := Value.int .i64 o.2.2) p30_10_1 ns30_10 (by kernel_rfl) (by kernel_rfl) (fun _ _ _ h => h) hE wn_none rfl ⟨B_gd, B_g2, trivial⟩ (fun W hS => (st_load1 tA3 rfl ((blk_cell hS.2.1 2).trans rfl))) rfl ?_
              clear hE a; intro a hE
              refine d_take (v := Value.pointer (some ⟨gd, 0, none⟩)) p30_10_2 ns30_10 (by kernel_rfl) (by kernel_rfl) (fun _ _ _ h => h) hE wn_none rfl ⟨B_gd, B_g2, trivial⟩ (fun W hS => (st_move rfl)) rfl ?_
              clear hE a; intro a hE
              refine d_take (v := Value.pointer (some ⟨gd, 0, none⟩)) p30_10_3 ns30_10 (by kernel_rfl) (by kernel_rfl) (fun _ _ _ h => h) hE wn_none rfl ⟨B_gd, B_g2, trivial⟩ (fun W hS => (st_nil rfl)) rfl ?_
              clear hE a; intro a hE
              refine d_take (v := Value.pointer (some ⟨gd, 1, none⟩)) p30_10_4 ns30_10 (by kernel_rfl) (by kernel_rfl) (fun _ _ _ h => h) hE wn_none rfl ⟨B_gd, B_g2, trivial⟩ (fun W hS => (st_fieldAddr Try.underlying66 rfl tS3 rfl rfl)) rfl ?_
              clear hE a; intro a hE
              refine d_take (v := Value.int .i64 tr) p30_10_5 ns30_10 (by kernel_rfl) (by kernel_rfl) (fun _ _ _ h => h) hE wn_none rfl ⟨B_gd, B_g2, trivial⟩ (fun W hS => (st_load1 tA3 rfl ((blk_cell hS.1 1).trans rfl))) rfl ?_
              clear hE a; intro a hE
              refine d_take (v := Value.bool false) p30_10_6 ns30_10 (by kernel_rfl) (by kernel_rfl) (fun _ _ _ h => h) hE wn_none rfl ⟨B_gd, B_g2, trivial⟩ (fun W hS => (st_geq (b := false) rfl rfl (decide_eq_false hOVER))) rfl ?_
              clear hE a; intro a hE
              refine d_end (by kernel_rfl) ?_
              refine x_norm ?_
              refine c_cond (t := false) hE rfl ?_
              refine c_reg R30_13_l ?_
              refine q0 p30_13_0 hE (st_move rfl) ?_
              clear hE a; intro a hE
              refine q0 p30_13_1 hE (st_fieldAddr Try.underlying70 rfl tS3 rfl rfl) ?_
              clear hE a; intro a hE
              refine q0 p30_13_2 hE (st_load1 tA3 rfl ((blk_cell B_g2 0).trans rfl)) ?_
              clear hE a; intro a hE
              refine p_cons (s_row (xs := [(0, Operand.tmp 53)]) (vs := [(0, Value.int .i64 o.1)]) (cs := #[Value.int .i64 o.1]) p30_13_3 hE wn_none rfl Try.underlying35 rfl (by kernel_rfl) ?_)
              clear hE a; intro g17 w18 z19 B_g17 hk a hE
              have n_gd_g17 : gd ≠ g17 := ne_new B_gd z19
              have n_g2_g17 : g2 ≠ g17 := ne_new B_g2 z19
              have z_0_g17 := Nat.le_trans K_0.kept.1 z19
              have Nb_L_g17 : ¬ OB A g17 := fun h => by have := (Rv.rdv_ob O_L h).2; omega
              have Nb_again_g17 : ¬ OB A_again g17 := fun h => by have := (own_ob O_again h).2; omega
              have Nb_lost_g17 : ¬ OB A_lost g17 := fun h => by have := (own_ob O_lost h).2; omega
              have Nb_M_g17 : ¬ OB A_M g17 := fun h => by have := (Rv.rdv_ob O_M h).2; omega
              replace B_gd := kp_blk B_gd hk (fun h => h)
              replace B_g2 := kp_blk B_g2 hk (fun h => h)
              replace O_L := Rv.rdv_keep O_L hk (fun _ _ h => h)
              replace O_again := own_keep O_again hk (fun _ _ h => h)
              replace O_lost := own_keep O_lost hk (fun _ _ h => h)
              replace O_M := Rv.rdv_keep O_M hk (fun _ _ h => h)
              replace K_0 := K_0.then_ hk (fun _ h => h.elim)
              clear hk
              refine p_cons (s_appendC (xs := q.again) (ys := [o.1]) p30_13_4 hE wn_none rfl Try.underlying35 eD3 rfl O_again rfl (C_blk (k := .i64) (l := [o.1]) (off := 0) B_g17 ⟨rfl, Nat.le_of_ble_eq_true rfl⟩ rfl) (by omega) (by omega) K_0.kept.1 ?_)
              clear hE a; intro Aagain20 cagain21 w22 O_again' hk hat a hE
              have Nb_again_gd' := grow_n Nb_again_gd (blk_lt B_gd) hat
              have Nb_again_g2' := grow_n Nb_again_g2 (blk_lt B_g2) hat
              have Nb_again_g17' := grow_n Nb_again_g17 (blk_lt B_g17) hat
              have NN_L_again' : ∀ k, OB A k → ¬ OB Aagain20 k := fun k h h2 => (hat k h2).elim (NN_L_again k h) (fun h3 => by have := (Rv.rdv_ob O_L h).2; omega)
              have NN_lost_again' : ∀ k, OB A_lost k → ¬ OB Aagain20 k := fun k h h2 => (hat k h2).elim (NN_lost_again k h) (fun h3 => by have := (own_ob O_lost h).2; omega)
              have NN_M_again' : ∀ k, OB A_M k → ¬ OB Aagain20 k := fun k h h2 => (hat k h2).elim (NN_M_again k h) (fun h3 => by have := (Rv.rdv_ob O_M h).2; omega)
              have Z_0_again' := grow_z Z_0_again K_0.kept.1 hat
              replace B_gd := kp_blk B_gd hk Nb_again_gd
              replace B_g2 := kp_blk B_g2 hk Nb_again_g2
              replace B_g17 := kp_blk B_g17 hk Nb_again_g17
              replace O_L := Rv.rdv_keep O_L hk NN_L_again
              replace O_lost := own_keep O_lost hk NN_lost_again
              replace O_M := Rv.rdv_keep O_M hk NN_M_again
              replace K_0 := K_0.then_ hk Z_0_again
              replace Nb_again_gd := Nb_again_gd'
              replace Nb_again_g2 := Nb_again_g2'
              replace Nb_again_g17 := Nb_again_g17'
              replace NN_L_again := NN_L_again'
              replace NN_again_L : ∀ k, OB Aagain20 k → ¬ OB A k := fun k h h2 => NN_L_again k h2 h
              replace NN_lost_again := NN_lost_again'
              replace NN_again_lost : ∀ k, OB Aagain20 k → ¬ OB A_lost k := fun k h h2 => NN_lost_again k h2 h
              replace NN_M_again := NN_M_again'
              replace NN_again_M : ∀ k, OB Aagain20 k → ¬ OB A_M k := fun k h h2 => NN_M_again k h2 h
              replace Z_0_again := Z_0_again'
              replace O_again : w22.ownsRow _ 3 1 (.slice Aagain20 (n_again + 1) cagain21) (n_again + 1) (encs (Value.int .i64) (q.again ++ [o.1])) := O_again'
              clear O_again' hk hat
              refine q0 p30_13_5 hE (st_assign rfl) ?_
              clear hE a; intro a hE
              refine p_nil ?_
              refine x_norm ?_
              refine c_draw (S := fun W => W.heap[g2]? = some (.cells #[Value.int .i64 o.1, Value.int .i64 o.2.1, Value.int .i64 o.2.2] 70 (0, 0)) ∧ True) rfl rfl (listed := #[false, false, false, false, false, false, false, false, false, false, false, false, false, false]) rfl ?_
              intro w23 hh hk
              replace B_gd := kp_blk B_gd hk (fun h => h)
              replace B_g2 := kp_blk B_g2 hk (fun h => h)
              replace B_g17 := kp_blk B_g17 hk (fun h => h)
              replace O_L := Rv.rdv_keep O_L hk (fun _ _ h => h)
              replace O_again := own_keep O_again hk (fun _ _ h => h)
              replace O_lost := own_keep O_lost hk (fun _ _ h => h)
              replace O_M := Rv.rdv_keep O_M hk (fun _ _ h => h)
              replace K_0 := K_0.then_ hk (fun _ h => h.elim)
              clear hh hk
              refine d_take (v := Value.pointer (some ⟨gd, 0, none⟩)) p30_14_0 ns30_14 (by kernel_rfl) (by kernel_rfl) (fun _ _ _ h => h) hE wn_none rfl ⟨B_g2, trivial⟩ (fun W hS => (st_move rfl)) rfl ?_
              clear hE a; intro a hE
              refine d_take (v := Value.pointer (some ⟨g2, 0, none⟩)) p30_14_1 ns30_14 (by kernel_rfl) (by kernel_rfl) (fun _ _ _ h => h) hE wn_none rfl ⟨B_g2, trivial⟩ (fun W hS => (st_fieldAddr Try.underlying70 rfl tS3 rfl rfl)) rfl ?_
              clear hE a; intro a hE
              refine d_take (v := Value.int .i64 o.1) p30_14_2 ns30_14 (by kernel_rfl) (by kernel_rfl) (fun _ _ _ h => h) hE wn_none rfl ⟨B_g2, trivial⟩ (fun W hS => (st_load1 tA3 rfl ((blk_cell hS.1 0).trans rfl))) rfl ?_
              clear hE a; intro a hE
              refine d_take (v := Value.int .i64 now) p30_14_3 ns30_14 (by kernel_rfl) (by kernel_rfl) (fun _ _ _ h => h) hE wn_none rfl ⟨B_g2, trivial⟩ (fun W hS => (st_move rfl)) rfl ?_
              clear hE a; intro a hE
              refine d_take (v := Value.pointer (some ⟨gd, 0, none⟩)) p30_14_4 ns30_14 (by kernel_rfl) (by kernel_rfl) (fun _ _ _ h => h) hE wn_none rfl ⟨B_g2, trivial⟩ (fun W hS => (st_move rfl)) rfl ?_
              clear hE a; intro a hE
              refine d_take (v := Value.pointer (some ⟨gd, 0, none⟩)) p30_14_5 ns30_14 (by kernel_rfl) (by kernel_rfl) (fun _ _ _ h => h) hE wn_none rfl ⟨B_g2, trivial⟩ (fun W hS => (st_nil rfl)) rfl ?_
              clear hE a; intro a hE
              refine d_take (v := Value.pointer (some ⟨gd, 0, none⟩)) p30_14_6 ns30_14 (by kernel_rfl) (by kernel_rfl) (fun _ _ _ h => h) hE wn_none rfl ⟨B_g2, trivial⟩ (fun W hS => (st_fieldAddr Try.underlying66 rfl tS3 rfl rfl)) rfl ?_
              clear hE a; intro a hE
              refine d_take (v := Value.pointer (some ⟨g2, 2, none⟩)) p30_14_9 ns30_14 (by kernel_rfl) (by kernel_rfl) (fun _ _ _ h => h) hE wn_none rfl ⟨B_g2, trivial⟩ (fun W hS => (st_fieldAddr Try.underlying70 rfl tS3 rfl rfl)) rfl ?_
              clear hE a; intro a hE
              refine d_take (v := Value.int .i64 o.2.2) p30_14_10 ns30_14 (by kernel_rfl) (by kernel_rfl) (fun _ _ _ h => h) hE wn_none rfl ⟨B_g2, trivial⟩ (fun W hS => (st_load1 tA3 rfl ((blk_cell hS.1 2).trans rfl))) rfl ?_
              clear hE a; intro a hE
              refine d_take (v := Value.int .i64 (o.2.2 + 1)) p30_14_11 ns30_14 (by kernel_rfl) (by kernel_rfl) (fun _ _ _ h => h) hE wn_none rfl ⟨B_g2, trivial⟩ (fun W hS => (st_add (z := o.2.2 + 1) rfl rfl (wr_i64 _ (by omega) (by omega)))) rfl ?_
              clear hE a; intro a hE
              refine d_one (by kernel_rfl) rfl (s_still p30_14_7 hE wn_none rfl (st_load1 tA3 rfl ((blk_cell B_gd 0).trans rfl)) ?_)
              clear hE a; intro a hE
              refine ⟨⟨B_g2, trivial⟩, ?_⟩
              refine d_take (v := Value.int .i64 (now + wt)) p30_14_8 ns30_14 (by kernel_rfl) (by kernel_rfl) (fun _ _ _ h => h) hE wn_none rfl ⟨B_g2, trivial⟩ (fun W hS => (st_add (z := now + wt) rfl rfl (wr_i64 _ (by omega) (by omega)))) rfl ?_
              clear hE a; intro a hE
              refine d_take (v := Value.agg #[Value.int .i64 o.1, Value.int .i64 (now + wt), Value.int .i64 (o.2.2 + 1)]) p30_14_12 ns30_14 (by kernel_rfl) (by kernel_rfl) (fun _ _ _ h => h) hE wn_none rfl ⟨B_g2, trivial⟩ (fun W hS => (st_build (xs := [(0, Operand.tmp 58), (1, Operand.tmp 64), (2, Operand.tmp 67)]) (vs := [(0, Value.int .i64 o.1), (1, Value.int .i64 (now + wt)), (2, Value.int .i64 (o.2.2 + 1))]) (cs := #[Value.int .i64 o.1, Value.int .i64 (now + wt), Value.int .i64 (o.2.2 + 1)]) rfl (by kernel_rfl))) rfl ?_
              clear hE a; intro a hE
              have hnb_gd := blk_lt B_gd
              have hnb_g2 := blk_lt B_g2
              have hnb_g17 := blk_lt B_g17
              have hno_again := fun k (h : OB Aagain20 k) => (own_ob O_again h).2
              have hno_lost := fun k (h : OB A_lost k) => (own_ob O_lost h).2
              have hkz9 := K_0.kept.1
              refine d_one (by kernel_rfl) rfl (s_call (xs := [Operand.tmp 56, Operand.tmp 68]) (args := [Value.pointer (some ⟨gd, 0, none⟩), Value.agg #[Value.int .i64 o.1, Value.int .i64 (now + wt), Value.int .i64 (o.2.2 + 1)]]) p30_14_13 hE wn_none rfl rfl Try.func44 cl44 (put_any gd A_M c_M q.l wt tr (o.1, now + wt, o.2.2 + 1) _ B_gd O_M hc_M (by omega) Nb_M_gd) ?_)
              rintro e w26 ⟨AM224, cM225, rfl, B_gd', O_M2, hc_M2, hg9, hk⟩
              replace B_g2 := kp_blk B_g2 hk (Ne.symm n_gd_g2)
              replace B_g17 := kp_blk B_g17 hk (Ne.symm n_gd_g17)
              replace O_L := Rv.rdv_keep O_L hk (fun k hk2 h2 => Nb_L_gd (by rw [show k = gd from h2] at hk2; exact hk2))
              replace O_again := own_keep O_again hk (fun k hk2 h2 => Nb_again_gd (by rw [show k = gd from h2] at hk2; exact hk2))
              replace O_lost := own_keep O_lost hk (fun k hk2 h2 => Nb_lost_gd (by rw [show k = gd from h2] at hk2; exact hk2))
              replace O_M := Rv.rdv_keep O_M hk (fun k hk2 h2 => Nb_M_gd (by rw [show k = gd from h2] at hk2; exact hk2))
              replace K_0 := K_0.then_ hk (fun k h => by rw [show k = gd from h]; exact Or.inl rfl)
              replace B_gd := B_gd'
              have Nb_M2_gd : ¬ OB AM224 gd := fun h => (hg9 _ h).elim Nb_M_gd (fun h2 => by have := hnb_gd; omega)
              have Nb_M2_g2 : ¬ OB AM224 g2 := fun h => (hg9 _ h).elim Nb_M_g2 (fun h2 => by have := hnb_g2; omega)
              have Nb_M2_g17 : ¬ OB AM224 g17 := fun h => (hg9 _ h).elim Nb_M_g17 (fun h2 => by have := hnb_g17; omega)
              have NN_M2_again : ∀ k, OB AM224 k → ¬ OB Aagain20 k := fun k h h2 => (hg9 _ h).elim (fun h3 => NN_M_again k h3 h2) (fun h3 => by have := hno_again k h2; omega)
              have NN_again_M2 : ∀ k, OB Aagain20 k → ¬ OB AM224 k := fun k h h2 => NN_M2_again k h2 h
              have NN_M2_lost : ∀ k, OB AM224 k → ¬ OB A_lost k := fun k h h2 => (hg9 _ h).elim (fun h3 => NN_M_lost k h3 h2) (fun h3 => by have := hno_lost k h2; omega)
              have NN_lost_M2 : ∀ k, OB A_lost k → ¬ OB AM224 k := fun k h h2 => NN_M2_lost k h2 h
              refine ⟨_, rfl, ?_⟩
              clear hE a; intro a hE
              refine ⟨⟨B_g2, trivial⟩, ?_⟩
              refine d_end (by kernel_rfl) ?_
              refine x_normB ?_
              refine x_norm ?_
              refine c_regL R30_7_l ?_
              refine q0 p30_7_0 hE (st_move rfl) ?_
              clear hE a; intro a hE
              refine q0 p30_7_1 hE (st_add (z := (j : Int) + 1) rfl rfl (wr_i64 _ (by omega) (by omega))) ?_
              clear hE a; intro a hE
              refine q0 p30_7_2 hE (st_assign rfl) ?_
              clear hE a; intro a hE
              refine p_nil ?_
              refine x_norm ?_
              have O_M := O_M2
              have hc_M := hc_M2
              have Nb_M_gd := Nb_M2_gd
              have Nb_M_g2 := Nb_M2_g2
              have Nb_M_g17 := Nb_M2_g17
              have NN_M_again := NN_M2_again
              have NN_again_M := NN_again_M2
              have NN_M_lost := NN_M2_lost
              have NN_lost_M := NN_lost_M2
              have hgM9 : ∀ k, OB AM224 k → OB A k ∨ w.heap.size ≤ k := fun k h => (hg9 k h).elim (fun h => hgM k h) (fun h => .inr (Nat.le_trans hkz9 h))
              have hq9 : (⟨q.again ++ [o.1], q.lost, insL (rmL q.l o.1) (o.1, now + wt, o.2.2 + 1)⟩ : StR) = (L.take (j + 1)).foldl (stepR wt tr now) (⟨[], [], L⟩ : StR) := by rw [foldl_next _ _ hx, ← hq]; unfold stepR; rw [if_neg hLATE, if_neg hOVER]
              have hml9 : (⟨q.again ++ [o.1], q.lost, insL (rmL q.l o.1) (o.1, now + wt, o.2.2 + 1)⟩ : StR).l.length ≤ L.length + (j + 1) := by show (insL _ _).length ≤ _; rw [ins_len]; have := rm_len q.l o.1; omega
              have hna9 : (⟨q.again ++ [o.1], q.lost, insL (rmL q.l o.1) (o.1, now + wt, o.2.2 + 1)⟩ : StR).again.length ≤ j + 1 := by show (q.again ++ [o.1]).length ≤ _; rw [List.length_append]; show q.again.length + 1 ≤ _; omega
              have hnl9 : (⟨q.again ++ [o.1], q.lost, insL (rmL q.l o.1) (o.1, now + wt, o.2.2 + 1)⟩ : StR).lost.length ≤ j + 1 := by exact Nat.le_succ_of_le hnl
              have hln_again : (n_again + 1) = (⟨q.again ++ [o.1], q.lost, insL (rmL q.l o.1) (o.1, now + wt, o.2.2 + 1)⟩ : StR).again.length := by show _ = (q.again ++ [o.1]).length; rw [List.length_append, ← hn_again]; rfl
              have hln_lost : n_lost = (⟨q.again ++ [o.1], q.lost, insL (rmL q.l o.1) (o.1, now + wt, o.2.2 + 1)⟩ : StR).lost.length := by exact hn_lost
              exact ⟨j + 1, by omega, Aagain20, cagain21, (n_again + 1), A_lost, c_lost, n_lost, AM224, cM225, (insL (rmL q.l o.1) (o.1, now + wt, o.2.2 + 1)).length, (⟨q.again ++ [o.1], q.lost, insL (rmL q.l o.1) (o.1, now + wt, o.2.2 + 1)⟩ : StR), En.sub hE ⟨rfl, rfl, rfl, rfl, rfl, rfl, rfl, rfl, rfl, trivial⟩, by omega, rfl, hc_M, hq9, hml9, hna9, hnl9, hgM9, B_gd, O_L, Nb_L_gd, NN_L_again, NN_L_lost, (by first | exact hln_again | exact hln_lost), O_again, Nb_again_gd, Z_0_again, NN_again_L, NN_again_lost, NN_again_M, (by first | exact hln_again | exact hln_lost), O_lost, Nb_lost_gd, Z_0_lost, NN_lost_L, NN_lost_again, NN_lost_M, O_M, Nb_M_gd, NN_M_again, NN_M_lost, K_0⟩
        ·
          refine c_reg R30_6_l ?_
          refine q0 p30_6_0 hE (st_move rfl) ?_
          clear hE a; intro a hE
          refine q0 p30_6_1 hE (st_move rfl) ?_
          clear hE a; intro a hE
          refine q0 p30_6_2 hE (st_len Try.underlying64 rfl) ?_
          clear hE a; intro a hE
          refine q0 p30_6_3 hE (st_lss (b := false) rfl rfl (decide_eq_false hK1)) ?_
          clear hE a; intro a hE
          refine p_nil ?_
          refine x_norm ?_
          refine c_cond (t := false) hE rfl ?_
          refine wp_exit ?_
          refine x_exit ?_
          refine x_exit ?_
          obtain rfl : j = L.length := by omega
          have hq8 : q = (dueR wt tr now L) := by rw [hq]; unfold dueR; rw [show timeB now = true from decide_eq_true ⟨by omega, by omega⟩, if_pos rfl, List.take_of_length_le (Nat.le_refl _)]
          refine x_in ?_
          refine x_norm ?_
          refine c_reg R30_15_l ?_
          refine q0 p30_15_0 hE (st_move rfl) ?_
          clear hE a; intro a hE
          refine q0 p30_15_1 hE (st_move rfl) ?_
          clear hE a; intro a hE
          refine q0 p30_15_2 hE (st_assign rfl) ?_
          clear hE a; intro a hE
          refine q0 p30_15_3 hE (st_assign rfl) ?_
          clear hE a; intro a hE
          refine p_nil ?_
          refine x_norm ?_
          refine wp_ret ?_
          refine ret_list (rs := [.tmp 4, .tmp 5]) (vs := [Value.slice A_again n_again c_again, Value.slice A_lost n_lost c_lost]) rfl hE (.tmp rfl (.tmp rfl .nil)) rfl ?_
          have e1 : n_again = q.again.length := hn_again
          have e2 : n_lost = q.lost.length := hn_lost
          rw [e1] at O_again
          rw [e2] at O_lost
          rw [← hq8]
          exact ⟨A_again, c_again, A_lost, c_lost, A_M, c_M, by rw [e1, e2], O_again, O_lost, NN_again_lost, B_gd, O_M, hc_M, hgM, K_0⟩
end Go.Proofs.Ytlmjbmeigclihaa.Ud
