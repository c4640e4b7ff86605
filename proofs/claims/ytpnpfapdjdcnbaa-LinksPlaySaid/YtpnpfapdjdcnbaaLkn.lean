/- Package links: Neighbors. -/
import Derived.Test.YtpnpfapdjdcnbaaLks
set_option maxRecDepth 100000
set_option linter.unusedVariables false
set_option linter.unusedSimpArgs false
namespace Go.Proofs.Ytpnpfapdjdcnbaa.Ln
open Go.RowKit Go.Proofs.YtpnpfapdjdcnbaaW.PrintWords Go.Proofs.Ytpnpfapdjdcnbaa.Ds Go.Proofs.Ytpnpfapdjdcnbaa.Lk
open Go.Proofs.Ytpnpfapdjdcnbaa.Pk (Kp)
open Go.Proofs.Ytpnpfapdjdcnbaa.Mp (st_eqlP st_neqP x_normS x_retS x_exitS)
/-- The neighbours among the first m nodes. -/
def nbs (n : Int) (f : Int → Int → Option Int) (x : Int) (m : Nat) : List Int := ((List.range m).filter fun (j : Nat) => decide ((costP n f x (j : Int)).2 = 0)).map fun (j : Nat) => (j : Int)
theorem nbs_succ (n : Int) (f : Int → Int → Option Int) (x : Int) (m : Nat) : nbs n f x (m + 1) = nbs n f x m ++ (if (costP n f x (m : Int)).2 = 0 then [(m : Int)] else []) := by
  unfold nbs
  rw [List.range_succ, List.filter_append, List.map_append]
  congr 1
  by_cases h : (costP n f x (m : Int)).2 = 0
  · simp [h]
  · simp [h]
theorem nbs_len (n : Int) (f : Int → Int → Option Int) (x : Int) (m : Nat) : (nbs n f x m).length ≤ m := by
  unfold nbs
  rw [List.length_map]
  exact Nat.le_trans (List.length_filter_le _ _) (by simp)
theorem nbs_mem {n : Int} {f : Int → Int → Option Int} {x : Int} {m : Nat} {y : Int} : y ∈ nbs n f x m ↔ 0 ≤ y ∧ y < (m : Int) ∧ (costP n f x y).2 = 0 := by
  unfold nbs
  rw [List.mem_map]
  constructor
  · rintro ⟨j, hj, rfl⟩
    rw [List.mem_filter, List.mem_range] at hj
    exact ⟨by omega, by omega, of_decide_eq_true hj.2⟩
  · rintro ⟨h1, h2, h3⟩
    obtain ⟨j, rfl⟩ : ∃ j : Nat, y = (j : Int) := ⟨y.toNat, by omega⟩
    exact ⟨j, by rw [List.mem_filter, List.mem_range]; exact ⟨by omega, decide_eq_true h3⟩, rfl⟩
theorem R31_0_l : List.range (regOf Try.f31 0).size = [0] := by kernel_rfl
theorem R31_1_l : List.range (regOf Try.f31 1).size = [0] := by kernel_rfl
theorem R31_2_l : List.range (regOf Try.f31 2).size = [0, 1, 2] := by kernel_rfl
theorem R31_3_l : List.range (regOf Try.f31 3).size = [0] := by kernel_rfl
theorem R31_4_l : List.range (regOf Try.f31 4).size = [0, 1] := by kernel_rfl
theorem R31_5_l : List.range (regOf Try.f31 5).size = [0, 1, 2, 3, 4, 5, 6, 7, 8] := by kernel_rfl
theorem R31_6_l : List.range (regOf Try.f31 6).size = [0, 1] := by kernel_rfl
theorem R31_7_l : List.range (regOf Try.f31 7).size = [0, 1, 2, 3, 4] := by kernel_rfl
theorem R31_8_l : List.range (regOf Try.f31 8).size = [0, 1] := by kernel_rfl
theorem R31_9_l : List.range (regOf Try.f31 9).size = [0, 1] := by kernel_rfl
theorem body31 : Try.f31.body = some (.seq (.region 0 (regOf Try.f31 0) false) (.scope (.seq (.region 1 (regOf Try.f31 1) false) (.seq (.label 0) (.seq (.seq (.region 2 (regOf Try.f31 2) false) (.block 0 (.loop (.seq (.region 3 (regOf Try.f31 3) false) (.seq (.cond (Operand.tmp 12) (.skip) (.exit 0)) (.seq (.block 1 (.seq (.region 4 (regOf Try.f31 4) false) (.seq (.seq (.region 5 (regOf Try.f31 5) false) (.seq (.region 6 (regOf Try.f31 6) false) (.cond (Operand.tmp 22) (.exit 1) (.skip)))) (.region 7 (regOf Try.f31 7) false)))) (.region 8 (regOf Try.f31 8) false))))))) (.seq (.region 9 (regOf Try.f31 9) false) (.ret))))))) := by kernel_rfl
theorem p31_0_0 : pj (regOf Try.f31 0) 0 = some (some 4, .assign (.const (.slice none 0 0)), 52, none) := by kernel_rfl
theorem p31_1_0 : pj (regOf Try.f31 1) 0 = some (some 5, .assign (.const (.slice none 0 0)), 52, none) := by kernel_rfl
theorem p31_2_0 : pj (regOf Try.f31 2) 0 = some (some 9, .move (.tmp 0), 56, none) := by kernel_rfl
theorem p31_2_1 : pj (regOf Try.f31 2) 1 = some (some 10, .call { callee := .value (.func 41), args := #[.tmp 9], argTypes := #[56] }, 3, none) := by kernel_rfl
theorem cl41 : callable Try.f41 = true := by kernel_rfl
theorem p31_2_2 : pj (regOf Try.f31 2) 2 = some (some 11, .move (.const (.int .i64 0)), 3, none) := by kernel_rfl
theorem p31_3_0 : pj (regOf Try.f31 3) 0 = some (some 12, .binOp .lss 3 (.tmp 11) (.tmp 10) 3, 4, none) := by kernel_rfl
theorem p31_4_0 : pj (regOf Try.f31 4) 0 = some (some 13, .move (.tmp 11), 3, none) := by kernel_rfl
theorem p31_4_1 : pj (regOf Try.f31 4) 1 = some (some 6, .assign (.tmp 13), 3, none) := by kernel_rfl
theorem p31_5_0 : pj (regOf Try.f31 5) 0 = some (some 15, .move (.tmp 0), 56, none) := by kernel_rfl
theorem p31_5_1 : pj (regOf Try.f31 5) 1 = some (some 16, .move (.tmp 1), 3, none) := by kernel_rfl
theorem p31_5_2 : pj (regOf Try.f31 5) 2 = some (some 17, .move (.tmp 6), 3, none) := by kernel_rfl
theorem p31_5_3 : pj (regOf Try.f31 5) 3 = some (some 18, .call { callee := .value (.func 32), args := #[.tmp 15, .tmp 16, .tmp 17], argTypes := #[56, 3, 3] }, 24, none) := by kernel_rfl
theorem cl32 : callable Try.f32 = true := by kernel_rfl
theorem p31_5_4 : pj (regOf Try.f31 5) 4 = some (some 14, .move (.tmp 18), 24, none) := by kernel_rfl
theorem p31_5_5 : pj (regOf Try.f31 5) 5 = some (some 19, .extract (.tmp 14) 0, 3, none) := by kernel_rfl
theorem p31_5_6 : pj (regOf Try.f31 5) 6 = some (some 20, .extract (.tmp 14) 1, 23, none) := by kernel_rfl
theorem p31_5_7 : pj (regOf Try.f31 5) 7 = some (some 7, .assign (.tmp 19), 3, none) := by kernel_rfl
theorem p31_5_8 : pj (regOf Try.f31 5) 8 = some (some 8, .assign (.tmp 20), 23, none) := by kernel_rfl
theorem p31_6_0 : pj (regOf Try.f31 6) 0 = some (some 21, .move (.tmp 8), 23, none) := by kernel_rfl
theorem p31_6_1 : pj (regOf Try.f31 6) 1 = some (some 22, .binOp .neq 23 (.tmp 21) (.const (.int .i64 0)) 23, 4, none) := by kernel_rfl
theorem p31_7_0 : pj (regOf Try.f31 7) 0 = some (some 23, .move (.tmp 5), 52, none) := by kernel_rfl
theorem p31_7_1 : pj (regOf Try.f31 7) 1 = some (some 24, .move (.tmp 6), 3, none) := by kernel_rfl
theorem p31_7_2 : pj (regOf Try.f31 7) 2 = some (some 25, .buildSlice 52 1 #[(0, .tmp 24)], 52, none) := by kernel_rfl
theorem p31_7_3 : pj (regOf Try.f31 7) 3 = some (some 26, .call { callee := .builtin .append, args := #[.tmp 23, .tmp 25], argTypes := #[52, 52] }, 52, none) := by kernel_rfl
theorem eD3 : elemD Try.prog 3 = some (1, 1, 8) := by kernel_rfl
theorem p31_7_4 : pj (regOf Try.f31 7) 4 = some (some 5, .assign (.tmp 26), 52, none) := by kernel_rfl
theorem p31_8_0 : pj (regOf Try.f31 8) 0 = some (some 27, .binOp .add 3 (.tmp 11) (.const (.int .i64 1)) 3, 3, none) := by kernel_rfl
theorem p31_8_1 : pj (regOf Try.f31 8) 1 = some (some 11, .move (.tmp 27), 3, none) := by kernel_rfl
theorem p31_9_0 : pj (regOf Try.f31 9) 0 = some (some 28, .move (.tmp 5), 52, none) := by kernel_rfl
theorem p31_9_1 : pj (regOf Try.f31 9) 1 = some (some 4, .assign (.tmp 28), 52, none) := by kernel_rfl
set_option maxHeartbeats 4000000 in
theorem nbs_any (g gm ck nn : Nat) (es : Array MapEntry) (f : Int → Int → Option Int)  (x : Int) (hnn : nn ≤ 64) (w : World) (hg : w.heap[g]? = some (.cells #[.int .i64 (nn : Int), .map (some gm)] 83 (0, 0))) (hm : w.heap[gm]? = some (.map es ck)) (hF : Mp.MapF es f) (hne : g ≠ gm) : Calls Try.prog 31 #[.pointer (some ⟨g, 0, none⟩), .int .i64 x] w fun e w' => ∃ A c, e = .returned (.slice A (nbs (nn : Int) f x nn).length c) ∧ (nbs (nn : Int) f x nn).length ≤ c ∧ (∀ W', Kp w' W' (fun k => k < w.heap.size) → Kd.C (Kd.int .i64) W' A (nbs (nn : Int) f x nn).length (nbs (nn : Int) f x nn)) ∧ (∀ k, OB A k → w.heap.size ≤ k) ∧ Kp w w' (fun _ => False) := by
  have K_0 := Kp.refl w (fun _ => False)
  have B_g := hg
  have B_gm := hm
  have n_g_gm := hne
  refine enter (args := [Value.pointer (some ⟨g, 0, none⟩), Value.int .i64 x]) (n := 29) Try.func31 body31 rfl rfl rfl ?_
  intro a hE
  refine c_reg R31_0_l ?_
  refine q0 p31_0_0 hE (st_assign rfl) ?_
  clear hE a; intro a hE
  refine p_nil ?_
  refine x_norm ?_
  refine wp_scope_straight ?_
  refine c_reg R31_1_l ?_
  refine q0 p31_1_0 hE (st_assign rfl) ?_
  clear hE a; intro a hE
  refine p_nil ?_
  refine x_norm ?_
  refine wp_seq ?_
  refine wp_label ?_
  refine x_norm ?_
  refine wp_seq ?_
  refine c_reg R31_2_l ?_
  refine q0 p31_2_0 hE (st_move rfl) ?_
  clear hE a; intro a hE
  refine p_cons (s_call (xs := [Operand.tmp 9]) (args := [Value.pointer (some ⟨g, 0, none⟩)]) p31_2_1 hE wn_none rfl rfl Try.func41 cl41 (nodes_any g (nn : Int) (Value.map (some gm)) _ B_g) ?_)
  rintro e w1 ⟨rfl, hk⟩
  replace B_g := kp_blk B_g hk (fun h => h)
  replace B_gm := kp_blk B_gm hk (fun h => h)
  replace K_0 := K_0.then_ hk (fun _ h => h.elim)
  refine ⟨_, rfl, ?_⟩
  clear hE a; intro a hE
  refine q0 p31_2_2 hE (st_move rfl) ?_
  clear hE a; intro a hE
  refine p_nil ?_
  refine x_norm ?_
  refine wp_block ?_
  have O_out := own_none w1 w.heap.size 3 1
  have Nb_out_g : ¬ OB none g := ob_nil
  have Nb_out_gm : ¬ OB none gm := ob_nil
  have Z_0_out : ∀ k, OB none k → (fun _ => False) k ∨ w.heap.size ≤ k := fun k h => absurd h ob_nil
  refine c_loop (α := Nat) (fun j a W => ∃ (A_out : Option Addr) (c_out : Nat) (n_out : Nat), En 29 a [(0, Value.pointer (some ⟨g, 0, none⟩)), (1, Value.int .i64 x), (4, Value.slice none 0 0), (10, Value.int .i64 (nn : Int)), (11, Value.int .i64 (j : Int)), (5, Value.slice A_out n_out c_out)] ∧ j ≤ nn ∧ W.heap[g]? = some (.cells #[Value.int .i64 (nn : Int), Value.map (some gm)] 83 (0, 0)) ∧ W.heap[gm]? = some (.map es ck) ∧ n_out = (nbs (nn : Int) f x j).length ∧ W.ownsRow w.heap.size 3 1 (.slice A_out n_out c_out) n_out (encs (Value.int .i64) (nbs (nn : Int) f x j)) ∧ ¬ OB A_out g ∧ ¬ OB A_out gm ∧ (∀ k, OB A_out k → (fun _ => False) k ∨ w.heap.size ≤ k) ∧ Kp w W (fun _ => False)) (fun j => nn - j) (0) ?_ ?_
  ·
    exact ⟨none, 0, 0, En.sub hE ⟨rfl, rfl, rfl, rfl, rfl, rfl, trivial⟩, Nat.zero_le _, B_g, B_gm, rfl, O_out, Nb_out_g, Nb_out_gm, Z_0_out, K_0⟩
  ·
    clear hE a
    rintro j a w2 ⟨A_out, c_out, n_out, hE, hj9, B_g, B_gm, hn_out, O_out, Nb_out_g, Nb_out_gm, Z_0_out, K_0⟩
    rcases Decidable.em ((j : Int) < (nn : Int)) with hK1 | hK1
    ·
      refine c_reg R31_3_l ?_
      refine q0 p31_3_0 hE (st_lss (b := true) rfl rfl (decide_eq_true hK1)) ?_
      clear hE a; intro a hE
      refine p_nil ?_
      refine x_norm ?_
      refine wp_seq ?_
      refine c_cond (t := true) hE rfl ?_
      refine wp_skip ?_
      refine x_norm ?_
      refine wp_seq ?_
      refine wp_block ?_
      refine c_reg R31_4_l ?_
      refine q0 p31_4_0 hE (st_move rfl) ?_
      clear hE a; intro a hE
      refine q0 p31_4_1 hE (st_assign rfl) ?_
      clear hE a; intro a hE
      refine p_nil ?_
      refine x_norm ?_
      refine wp_seq ?_
      refine c_reg R31_5_l ?_
      refine q0 p31_5_0 hE (st_move rfl) ?_
      clear hE a; intro a hE
      refine q0 p31_5_1 hE (st_move rfl) ?_
      clear hE a; intro a hE
      refine q0 p31_5_2 hE (st_move rfl) ?_
      clear hE a; intro a hE
      refine p_cons (s_call (xs := [Operand.tmp 15, Operand.tmp 16, Operand.tmp 17]) (args := [Value.pointer (some ⟨g, 0, none⟩), Value.int .i64 x, Value.int .i64 (j : Int)]) p31_5_3 hE wn_none rfl rfl Try.func32 cl32 (cost_any g gm _ _ f (nn : Int) x (j : Int) _ B_g B_gm hF n_g_gm) ?_)
      rintro e w3 ⟨rfl, hk⟩
      replace B_g := kp_blk B_g hk (fun h => h)
      replace B_gm := kp_blk B_gm hk (fun h => h)
      replace O_out := own_keep O_out hk (fun _ _ h => h)
      replace K_0 := K_0.then_ hk (fun _ h => h.elim)
      refine ⟨_, rfl, ?_⟩
      clear hE a; intro a hE
      refine q0 p31_5_4 hE (st_move rfl) ?_
      clear hE a; intro a hE
      refine q0 p31_5_5 hE (st_extract rfl rfl) ?_
      clear hE a; intro a hE
      refine q0 p31_5_6 hE (st_extract rfl rfl) ?_
      clear hE a; intro a hE
      refine q0 p31_5_7 hE (st_assign rfl) ?_
      clear hE a; intro a hE
      refine q0 p31_5_8 hE (st_assign rfl) ?_
      clear hE a; intro a hE
      refine p_nil ?_
      refine x_norm ?_
      rcases Decidable.em ((costP (nn : Int) f x (j : Int)).2 = 0) with hEQ | hEQ
      ·
        refine c_reg R31_6_l ?_
        refine q0 p31_6_0 hE (st_move rfl) ?_
        clear hE a; intro a hE
        refine q0 p31_6_1 hE (st_neq (b := false) rfl rfl (by simp [hEQ])) ?_
        clear hE a; intro a hE
        refine p_nil ?_
        refine x_norm ?_
        refine c_cond (t := false) hE rfl ?_
        refine wp_skip ?_
        refine x_norm ?_
        refine c_regL R31_7_l ?_
        have hbl := nbs_len (nn : Int) f x j
        refine q0 p31_7_0 hE (st_move rfl) ?_
        clear hE a; intro a hE
        refine q0 p31_7_1 hE (st_move rfl) ?_
        clear hE a; intro a hE
        refine p_cons (s_row (xs := [(0, Operand.tmp 24)]) (vs := [(0, Value.int .i64 (j : Int))]) (cs := #[Value.int .i64 (j : Int)]) p31_7_2 hE wn_none rfl Try.underlying52 rfl (by kernel_rfl) ?_)
        clear hE a; intro g4 w5 z6 B_g4 hk a hE
        have n_g_g4 : g ≠ g4 := ne_new B_g z6
        have n_gm_g4 : gm ≠ g4 := ne_new B_gm z6
        have z_0_g4 := Nat.le_trans K_0.kept.1 z6
        have Nb_out_g4 : ¬ OB A_out g4 := fun h => by have := (own_ob O_out h).2; omega
        replace B_g := kp_blk B_g hk (fun h => h)
        replace B_gm := kp_blk B_gm hk (fun h => h)
        replace O_out := own_keep O_out hk (fun _ _ h => h)
        replace K_0 := K_0.then_ hk (fun _ h => h.elim)
        clear hk
        refine p_cons (s_appendC (xs := (nbs (nn : Int) f x j)) (ys := [(j : Int)]) p31_7_3 hE wn_none rfl Try.underlying52 eD3 rfl O_out rfl (C_blk (k := .i64) (l := [(j : Int)]) (off := 0) B_g4 ⟨rfl, Nat.le_of_ble_eq_true rfl⟩ rfl) (by omega) (by omega) K_0.kept.1 ?_)
        clear hE a; intro Aout7 cout8 w9 O_out' hk hat a hE
        have Nb_out_g' := grow_n Nb_out_g (blk_lt B_g) hat
        have Nb_out_gm' := grow_n Nb_out_gm (blk_lt B_gm) hat
        have Nb_out_g4' := grow_n Nb_out_g4 (blk_lt B_g4) hat
        have Z_0_out' := grow_z Z_0_out K_0.kept.1 hat
        replace B_g := kp_blk B_g hk Nb_out_g
        replace B_gm := kp_blk B_gm hk Nb_out_gm
        replace B_g4 := kp_blk B_g4 hk Nb_out_g4
        replace K_0 := K_0.then_ hk Z_0_out
        replace Nb_out_g := Nb_out_g'
        replace Nb_out_gm := Nb_out_gm'
        replace Nb_out_g4 := Nb_out_g4'
        replace Z_0_out := Z_0_out'
        replace O_out : w9.ownsRow _ 3 1 (.slice Aout7 (n_out + 1) cout8) (n_out + 1) (encs (Value.int .i64) ((nbs (nn : Int) f x j) ++ [(j : Int)])) := O_out'
        clear O_out' hk hat
        refine q0 p31_7_4 hE (st_assign rfl) ?_
        clear hE a; intro a hE
        refine p_nil ?_
        refine x_normB ?_
        refine x_norm ?_
        refine c_regL R31_8_l ?_
        refine q0 p31_8_0 hE (st_add (z := (j : Int) + 1) rfl rfl (wr_i64 _ (by omega) (by omega))) ?_
        clear hE a; intro a hE
        refine q0 p31_8_1 hE (st_move rfl) ?_
        clear hE a; intro a hE
        refine p_nil ?_
        refine x_norm ?_
        have e9 : (nbs (nn : Int) f x (j + 1)) = ((nbs (nn : Int) f x j) ++ [(j : Int)]) := by rw [nbs_succ, if_pos hEQ]
        have hln9 : (n_out + 1) = (nbs (nn : Int) f x (j + 1)).length := by rw [e9]; rw [List.length_append, ← hn_out]; rfl
        rw [← e9] at O_out
        exact ⟨j + 1, by omega, Aout7, cout8, (n_out + 1), En.sub hE ⟨rfl, rfl, rfl, rfl, rfl, rfl, trivial⟩, by omega, B_g, B_gm, hln9, O_out, Nb_out_g, Nb_out_gm, Z_0_out, K_0⟩
      ·
        refine c_reg R31_6_l ?_
        refine q0 p31_6_0 hE (st_move rfl) ?_
        clear hE a; intro a hE
        refine q0 p31_6_1 hE (st_neq (b := true) rfl rfl (by simp [hEQ])) ?_
        clear hE a; intro a hE
        refine p_nil ?_
        refine x_norm ?_
        refine c_cond (t := true) hE rfl ?_
        refine wp_exit ?_
        refine x_exit ?_
        refine x_in ?_
        refine x_norm ?_
        refine c_regL R31_8_l ?_
        refine q0 p31_8_0 hE (st_add (z := (j : Int) + 1) rfl rfl (wr_i64 _ (by omega) (by omega))) ?_
        clear hE a; intro a hE
        refine q0 p31_8_1 hE (st_move rfl) ?_
        clear hE a; intro a hE
        refine p_nil ?_
        refine x_norm ?_
        have e9 : (nbs (nn : Int) f x (j + 1)) = (nbs (nn : Int) f x j) := by rw [nbs_succ, if_neg hEQ]; exact List.append_nil _
        have hln9 : n_out = (nbs (nn : Int) f x (j + 1)).length := by rw [e9]; exact hn_out
        rw [← e9] at O_out
        exact ⟨j + 1, by omega, A_out, c_out, n_out, En.sub hE ⟨rfl, rfl, rfl, rfl, rfl, rfl, trivial⟩, by omega, B_g, B_gm, hln9, O_out, Nb_out_g, Nb_out_gm, Z_0_out, K_0⟩
    ·
      refine c_reg R31_3_l ?_
      refine q0 p31_3_0 hE (st_lss (b := false) rfl rfl (decide_eq_false hK1)) ?_
      clear hE a; intro a hE
      refine p_nil ?_
      refine x_norm ?_
      refine wp_seq ?_
      refine c_cond (t := false) hE rfl ?_
      refine wp_exit ?_
      refine x_exit ?_
      refine x_exit ?_
      refine x_in ?_
      refine x_norm ?_
      refine c_reg R31_9_l ?_
      refine q0 p31_9_0 hE (st_move rfl) ?_
      clear hE a; intro a hE
      refine q0 p31_9_1 hE (st_assign rfl) ?_
      clear hE a; intro a hE
      refine p_nil ?_
      refine x_norm ?_
      refine wp_ret ?_
      refine x_retS ?_
      refine ret_one (v := Value.slice A_out n_out c_out) rfl hE (.tmp rfl .nil) ?_
      obtain rfl : j = nn := by omega
      subst hn_out
      exact ⟨A_out, c_out, rfl, (own_caps O_out).1, fun W' hk => own_told (own_keep O_out hk (fun k h h2 => by have := (own_ob O_out h).1; omega)), fun k h => (own_ob O_out h).1, K_0⟩
end Go.Proofs.Ytpnpfapdjdcnbaa.Ln
