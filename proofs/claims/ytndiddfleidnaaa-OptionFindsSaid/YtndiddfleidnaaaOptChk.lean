/- Package option: numbers, Check, kind by kind. -/
import Derived.Test.YtndiddfleidnaaaOpt
set_option maxRecDepth 100000
set_option linter.unusedVariables false
set_option linter.unusedSimpArgs false
namespace Go.Proofs.Ytndiddfleidnaaa.Oc
open Go.RowKit Go.Proofs.YtndiddfleidnaaaW.PrintWords Go.Proofs.Ytndiddfleidnaaa.Ds Go.Proofs.Ytndiddfleidnaaa.Op
open Go.Proofs.Ytndiddfleidnaaa.Pk (Kp fitsF spanF putF digF fits_any put_ok put_bd)
theorem fits_yes {k n q : Int} (hk : spanF k = q) (hq : 0 < q) (h : 0 ≤ n ∧ n < q) : fitsF k [n] = true := by
  simp only [fitsF, Bool.and_eq_true, List.all_eq_true, decide_eq_true_eq]
  exact ⟨by omega, fun y hy => by simp at hy; omega⟩
theorem fits_no {k n q : Int} (hk : spanF k = q) (h : ¬ (0 ≤ n ∧ n < q)) : fitsF k [n] = false := by
  cases h2 : fitsF k [n] with
  | false => rfl
  | true =>
    simp only [fitsF, Bool.and_eq_true, List.all_eq_true, decide_eq_true_eq] at h2
    have := h2.2 n (by simp)
    omega
def okJ (SZ : List Int) (ln ze : Int) (l : List Int) (j : Nat) : Prop := fitsF (rd SZ (j : Int)) [rd l (j : Int)] = true ∧ ((j : Int) = ln → rd l (j : Int) ≤ 128) ∧ ((j : Int) = ze → rd l (j : Int) = 0)
def numOK (SZ : List Int) (ln ze : Int) (l : List Int) : Prop := ∀ j, j < SZ.length → okJ SZ ln ze l j
theorem R96_0_l : List.range (regOf Try.f96 0).size = [0, 1] := by kernel_rfl
theorem R96_1_l : List.range (regOf Try.f96 1).size = [0, 1, 2, 3] := by kernel_rfl
theorem R96_2_l : List.range (regOf Try.f96 2).size = [0] := by kernel_rfl
theorem R96_3_l : List.range (regOf Try.f96 3).size = [0, 1, 2, 3, 4] := by kernel_rfl
theorem R96_4_l : List.range (regOf Try.f96 4).size = [0, 1, 2, 3, 4, 5, 6, 7, 8, 9, 10, 11, 12, 13, 14, 15, 16, 17, 18, 19, 20, 21, 22, 23, 24, 25, 26, 27, 28, 29, 30, 31, 32, 33] := by kernel_rfl
theorem R96_5_l : List.range (regOf Try.f96 5).size = [0] := by kernel_rfl
theorem R96_6_l : List.range (regOf Try.f96 6).size = [0, 1] := by kernel_rfl
theorem R96_7_l : List.range (regOf Try.f96 7).size = [0] := by kernel_rfl
theorem body96 : Try.f96.body = some (.seq (.region 0 (regOf Try.f96 0) false) (.seq (.seq (.region 1 (regOf Try.f96 1) false) (.block 0 (.loop (.seq (.region 2 (regOf Try.f96 2) false) (.seq (.cond (Operand.tmp 11) (.skip) (.exit 0)) (.seq (.block 1 (.seq (.region 3 (regOf Try.f96 3) false) (.seq (.region 4 (regOf Try.f96 4) false) (.cond (Operand.tmp 48) (.seq (.region 5 (regOf Try.f96 5) false) (.ret)) (.skip))))) (.region 6 (regOf Try.f96 6) false))))))) (.seq (.region 7 (regOf Try.f96 7) false) (.ret)))) := by kernel_rfl
theorem p96_0_0 : pj (regOf Try.f96 0) 0 = some (some 2, .box 157 (.tmp 0), 0, none) := by kernel_rfl
theorem p96_0_1 : pj (regOf Try.f96 0) 1 = some (some 4, .assign (.const (.int .i64 0)), 29, none) := by kernel_rfl
theorem p96_1_0 : pj (regOf Try.f96 1) 0 = some (some 7, .fieldAddr 157 (.tmp 2) 1, 0, none) := by kernel_rfl
theorem tS62 : (Try.prog.info? 62).map (·.size) = some 1 := by kernel_rfl
theorem p96_1_1 : pj (regOf Try.f96 1) 1 = some (some 8, .load 62 (.tmp 7), 62, none) := by kernel_rfl
theorem tA62 : (Try.prog.underlying 62).map aggD = some false := by kernel_rfl
theorem p96_1_2 : pj (regOf Try.f96 1) 2 = some (some 9, .call { callee := .builtin .len, args := #[.tmp 8], argTypes := #[62] }, 3, none) := by kernel_rfl
theorem p96_1_3 : pj (regOf Try.f96 1) 3 = some (some 10, .move (.const (.int .i64 0)), 3, none) := by kernel_rfl
theorem p96_2_0 : pj (regOf Try.f96 2) 0 = some (some 11, .binOp .lss 3 (.tmp 10) (.tmp 9) 3, 0, none) := by kernel_rfl
theorem p96_3_0 : pj (regOf Try.f96 3) 0 = some (some 12, .move (.tmp 10), 3, none) := by kernel_rfl
theorem p96_3_1 : pj (regOf Try.f96 3) 1 = some (some 13, .indexAddr 62 (.tmp 8) (.tmp 10), 0, none) := by kernel_rfl
theorem tS3 : (Try.prog.info? 3).map (·.size) = some 1 := by kernel_rfl
theorem p96_3_2 : pj (regOf Try.f96 3) 2 = some (some 14, .load 3 (.tmp 13), 3, none) := by kernel_rfl
theorem tA3 : (Try.prog.underlying 3).map aggD = some false := by kernel_rfl
theorem p96_3_3 : pj (regOf Try.f96 3) 3 = some (some 5, .assign (.tmp 12), 3, none) := by kernel_rfl
theorem p96_3_4 : pj (regOf Try.f96 3) 4 = some (some 6, .assign (.tmp 14), 3, none) := by kernel_rfl
theorem p96_4_0 : pj (regOf Try.f96 4) 0 = some (some 15, .move (.tmp 6), 3, none) := by kernel_rfl
theorem p96_4_1 : pj (regOf Try.f96 4) 1 = some (some 16, .move (.tmp 1), 62, none) := by kernel_rfl
theorem p96_4_2 : pj (regOf Try.f96 4) 2 = some (some 17, .move (.tmp 5), 3, none) := by kernel_rfl
theorem p96_4_3 : pj (regOf Try.f96 4) 3 = some (some 18, .indexAddr 62 (.tmp 16) (.tmp 17), 0, none) := by kernel_rfl
theorem p96_4_4 : pj (regOf Try.f96 4) 4 = some (some 19, .load 3 (.tmp 18), 3, none) := by kernel_rfl
theorem p96_4_5 : pj (regOf Try.f96 4) 5 = some (some 20, .buildSlice 62 1 #[(0, .tmp 19)], 62, none) := by kernel_rfl
theorem p96_4_6 : pj (regOf Try.f96 4) 6 = some (some 21, .call { callee := .value (.func 69), args := #[.tmp 15, .tmp 20], argTypes := #[3, 62] }, 4, none) := by kernel_rfl
theorem cl69 : callable Try.f69 = true := by kernel_rfl
theorem p96_4_7 : pj (regOf Try.f96 4) 7 = some (some 22, .unOp .not 4 (.tmp 21), 4, none) := by kernel_rfl
theorem p96_4_8 : pj (regOf Try.f96 4) 8 = some (some 23, .move (.tmp 22), 4, none) := by kernel_rfl
theorem p96_4_9 : pj (regOf Try.f96 4) 9 = some (some 24, .move (.tmp 5), 3, some (8, false)) := by kernel_rfl
theorem g96_4_8 : dstOf (regOf Try.f96 4) 8 = some 23 := by kernel_rfl
theorem p96_4_10 : pj (regOf Try.f96 4) 10 = some (some 25, .fieldAddr 157 (.tmp 2) 4, 0, some (8, false)) := by kernel_rfl
theorem p96_4_11 : pj (regOf Try.f96 4) 11 = some (some 26, .load 3 (.tmp 25), 3, some (8, false)) := by kernel_rfl
theorem p96_4_12 : pj (regOf Try.f96 4) 12 = some (some 27, .binOp .eql 3 (.tmp 24) (.tmp 26) 3, 4, some (8, false)) := by kernel_rfl
theorem p96_4_13 : pj (regOf Try.f96 4) 13 = some (some 28, .move (.tmp 27), 4, some (8, false)) := by kernel_rfl
theorem p96_4_14 : pj (regOf Try.f96 4) 14 = some (some 29, .move (.tmp 1), 62, some (13, true)) := by kernel_rfl
theorem g96_4_13 : dstOf (regOf Try.f96 4) 13 = some 28 := by kernel_rfl
theorem p96_4_15 : pj (regOf Try.f96 4) 15 = some (some 30, .move (.tmp 5), 3, some (13, true)) := by kernel_rfl
theorem p96_4_16 : pj (regOf Try.f96 4) 16 = some (some 31, .indexAddr 62 (.tmp 29) (.tmp 30), 0, some (13, true)) := by kernel_rfl
theorem p96_4_17 : pj (regOf Try.f96 4) 17 = some (some 32, .load 3 (.tmp 31), 3, some (13, true)) := by kernel_rfl
theorem p96_4_18 : pj (regOf Try.f96 4) 18 = some (some 33, .binOp .gtr 3 (.tmp 32) (.const (.int .i64 128)) 3, 4, some (13, true)) := by kernel_rfl
theorem p96_4_19 : pj (regOf Try.f96 4) 19 = some (some 34, .pick (.tmp 28) (.tmp 33) (.const (.bool false)), 4, some (8, false)) := by kernel_rfl
theorem p96_4_20 : pj (regOf Try.f96 4) 20 = some (some 35, .pick (.tmp 23) (.const (.bool true)) (.tmp 34), 4, none) := by kernel_rfl
theorem p96_4_21 : pj (regOf Try.f96 4) 21 = some (some 36, .move (.tmp 35), 4, none) := by kernel_rfl
theorem p96_4_22 : pj (regOf Try.f96 4) 22 = some (some 37, .move (.tmp 5), 3, some (21, false)) := by kernel_rfl
theorem g96_4_21 : dstOf (regOf Try.f96 4) 21 = some 36 := by kernel_rfl
theorem p96_4_23 : pj (regOf Try.f96 4) 23 = some (some 38, .fieldAddr 157 (.tmp 2) 5, 0, some (21, false)) := by kernel_rfl
theorem p96_4_24 : pj (regOf Try.f96 4) 24 = some (some 39, .load 3 (.tmp 38), 3, some (21, false)) := by kernel_rfl
theorem p96_4_25 : pj (regOf Try.f96 4) 25 = some (some 40, .binOp .eql 3 (.tmp 37) (.tmp 39) 3, 4, some (21, false)) := by kernel_rfl
theorem p96_4_26 : pj (regOf Try.f96 4) 26 = some (some 41, .move (.tmp 40), 4, some (21, false)) := by kernel_rfl
theorem p96_4_27 : pj (regOf Try.f96 4) 27 = some (some 42, .move (.tmp 1), 62, some (26, true)) := by kernel_rfl
theorem g96_4_26 : dstOf (regOf Try.f96 4) 26 = some 41 := by kernel_rfl
theorem p96_4_28 : pj (regOf Try.f96 4) 28 = some (some 43, .move (.tmp 5), 3, some (26, true)) := by kernel_rfl
theorem p96_4_29 : pj (regOf Try.f96 4) 29 = some (some 44, .indexAddr 62 (.tmp 42) (.tmp 43), 0, some (26, true)) := by kernel_rfl
theorem p96_4_30 : pj (regOf Try.f96 4) 30 = some (some 45, .load 3 (.tmp 44), 3, some (26, true)) := by kernel_rfl
theorem p96_4_31 : pj (regOf Try.f96 4) 31 = some (some 46, .binOp .neq 3 (.tmp 45) (.const (.int .i64 0)) 3, 4, some (26, true)) := by kernel_rfl
theorem p96_4_32 : pj (regOf Try.f96 4) 32 = some (some 47, .pick (.tmp 41) (.tmp 46) (.const (.bool false)), 4, some (21, false)) := by kernel_rfl
theorem p96_4_33 : pj (regOf Try.f96 4) 33 = some (some 48, .pick (.tmp 36) (.const (.bool true)) (.tmp 47), 4, none) := by kernel_rfl
theorem p96_5_0 : pj (regOf Try.f96 5) 0 = some (some 4, .assign (.const (.int .i64 1)), 29, none) := by kernel_rfl
theorem p96_6_0 : pj (regOf Try.f96 6) 0 = some (some 49, .binOp .add 3 (.tmp 10) (.const (.int .i64 1)) 3, 3, none) := by kernel_rfl
theorem p96_6_1 : pj (regOf Try.f96 6) 1 = some (some 10, .move (.tmp 49), 3, none) := by kernel_rfl
theorem p96_7_0 : pj (regOf Try.f96 7) 0 = some (some 4, .assign (.const (.int .i64 0)), 29, none) := by kernel_rfl
set_option maxHeartbeats 4000000 in
theorem num_R {R : Ending → World → Prop} (WD : ByteArray) (A B : Option Addr) (c cb nb : Nat) (be ln ze : Int) (ad : Bool) (SZ l : List Int) (hln : nb = SZ.length) (hSZ : SZ.length ≤ 1000) (w : World) (F_A : ∀ W', Kp w W' (fun _ => False) → Kd.C (Kd.int .i64) W' A SZ.length SZ) (F_B : ∀ W', Kp w W' (fun _ => False) → Kd.C (Kd.int .i64) W' B nb l) (h0 : numOK SZ ln ze l → ∀ w', Kp w w' (fun _ => False) → R (.returned (.int .i64 0)) w') (h1 : ¬ numOK SZ ln ze l → ∀ w', Kp w w' (fun _ => False) → R (.returned (.int .i64 1)) w') : Calls Try.prog 96 #[Value.agg #[Value.string WD, Value.slice A SZ.length c, Value.int .i64 be, Value.bool ad, Value.int .i64 ln, Value.int .i64 ze], .slice B nb cb] w R := by
  have K_0 := Kp.refl w (fun _ => False)
  subst hln
  refine enter (args := [Value.agg #[Value.string WD, Value.slice A SZ.length c, Value.int .i64 be, Value.bool ad, Value.int .i64 ln, Value.int .i64 ze], Value.slice B SZ.length cb]) (n := 50) Try.func96 body96 rfl rfl rfl ?_
  intro a hE
  refine c_reg R96_0_l ?_
  refine p_cons (s_box p96_0_0 hE wn_none rfl rfl ?_)
  clear hE a; intro g1 w2 z3 B_g1 hk a hE
  replace B_g1 : w2.heap[g1]? = some (.cells #[Value.string WD, Value.slice A SZ.length c, Value.int .i64 be, Value.bool ad, Value.int .i64 ln, Value.int .i64 ze] 157 (0, 0)) := B_g1
  have z_0_g1 := Nat.le_trans K_0.kept.1 z3
  replace K_0 := K_0.then_ hk (fun _ h => h.elim)
  clear hk
  refine q0 p96_0_1 hE (st_assign rfl) ?_
  clear hE a; intro a hE
  refine p_nil ?_
  refine x_norm ?_
  refine wp_seq ?_
  refine c_reg R96_1_l ?_
  refine q0 p96_1_0 hE (st_fieldAddr Try.underlying157 rfl tS62 rfl rfl) ?_
  clear hE a; intro a hE
  refine q0 p96_1_1 hE (st_load1 tA62 rfl ((blk_cell B_g1 1).trans rfl)) ?_
  clear hE a; intro a hE
  refine q0 p96_1_2 hE (st_len Try.underlying62 rfl) ?_
  clear hE a; intro a hE
  refine q0 p96_1_3 hE (st_move rfl) ?_
  clear hE a; intro a hE
  refine p_nil ?_
  refine x_norm ?_
  refine wp_block ?_
  refine c_loop (α := Nat) (fun k a W => En 50 a [(0, Value.agg #[Value.string WD, Value.slice A SZ.length c, Value.int .i64 be, Value.bool ad, Value.int .i64 ln, Value.int .i64 ze]), (1, Value.slice B SZ.length cb), (2, Value.pointer (some ⟨g1, 0, none⟩)), (8, Value.slice A SZ.length c), (9, Value.int .i64 (SZ.length : Int)), (10, Value.int .i64 (k : Int))] ∧ k ≤ SZ.length ∧ (∀ j, j < k → okJ SZ ln ze l j) ∧ W.heap[g1]? = some (.cells #[Value.string WD, Value.slice A SZ.length c, Value.int .i64 be, Value.bool ad, Value.int .i64 ln, Value.int .i64 ze] 157 (0, 0)) ∧ Kp w W (fun _ => False)) (fun k => SZ.length - k) (0) ?_ ?_
  ·
    exact ⟨En.sub hE ⟨rfl, rfl, rfl, rfl, rfl, rfl, trivial⟩, Nat.zero_le _, fun j hj => absurd hj (Nat.not_lt_zero j), B_g1, K_0⟩
  ·
    clear hE a
    rintro k a w4 ⟨hE, hk9, hall, B_g1, K_0⟩
    refine c_reg R96_2_l ?_
    rcases Decidable.em ((k : Int) < (SZ.length : Int)) with hc5 | hc5
    ·
      refine p_cons (s_still (v := Value.bool true) p96_2_0 hE wn_none rfl (st_lss rfl rfl (decide_eq_true hc5)) ?_)
      clear hE a; intro a hE
      refine p_nil ?_
      refine x_norm ?_
      refine wp_seq ?_
      refine c_cond (t := true) hE rfl ?_
      refine wp_skip ?_
      refine x_norm ?_
      refine wp_seq ?_
      refine wp_block ?_
      refine c_reg R96_3_l ?_
      refine q0 p96_3_0 hE (st_move rfl) ?_
      clear hE a; intro a hE
      refine q0 p96_3_1 hE (st_indexAddrC (i := k) Try.underlying62 tS3 (F_A _ K_0) rfl rfl (by omega)) ?_
      clear hE a; intro a hE
      refine q0 (v := Value.int .i64 (rd SZ (k : Int))) p96_3_2 hE (st_loadC (i := k) tA3 (F_A _ K_0) (by omega) rfl) ?_
      clear hE a; intro a hE
      refine q0 p96_3_3 hE (st_assign rfl) ?_
      clear hE a; intro a hE
      refine q0 p96_3_4 hE (st_assign rfl) ?_
      clear hE a; intro a hE
      refine p_nil ?_
      refine x_norm ?_
      rcases Decidable.em (fitsF (rd SZ (k : Int)) [rd l (k : Int)] = true) with hf | hf
      ·
        rcases Decidable.em ((k : Int) = ln) with hP | hP
        ·
          rcases Decidable.em (128 < rd l (k : Int)) with hp | hp
          ·
            refine c_reg R96_4_l ?_
            refine q0 p96_4_0 hE (st_move rfl) ?_
            clear hE a; intro a hE
            refine q0 p96_4_1 hE (st_move rfl) ?_
            clear hE a; intro a hE
            refine q0 p96_4_2 hE (st_move rfl) ?_
            clear hE a; intro a hE
            refine q0 p96_4_3 hE (st_indexAddrC (i := k) Try.underlying62 tS3 (F_B _ K_0) rfl rfl (by omega)) ?_
            clear hE a; intro a hE
            refine q0 (v := Value.int .i64 (rd l (k : Int))) p96_4_4 hE (st_loadC (i := k) tA3 (F_B _ K_0) (by omega) rfl) ?_
            clear hE a; intro a hE
            refine p_cons (s_row (xs := [(0, Operand.tmp 19)]) (vs := [(0, Value.int .i64 (rd l (k : Int)))]) (cs := #[Value.int .i64 (rd l (k : Int))]) p96_4_5 hE wn_none rfl Try.underlying62 rfl (by kernel_rfl) ?_)
            clear hE a; intro g6 w7 z8 B_g6 hk a hE
            have n_g1_g6 : g1 ≠ g6 := ne_new B_g1 z8
            have z_0_g6 := Nat.le_trans K_0.kept.1 z8
            replace B_g1 := kp_blk B_g1 hk (fun h => h)
            replace K_0 := K_0.then_ hk (fun _ h => h.elim)
            clear hk
            refine p_cons (s_call (xs := [Operand.tmp 15, Operand.tmp 20]) (args := [Value.int .i64 (rd SZ (k : Int)), Value.slice (some ⟨g6, 0, none⟩) 1 1]) p96_4_6 hE wn_none rfl rfl Try.func69 cl69 (fits_any (some ⟨g6, 0, none⟩) 1 (rd SZ (k : Int)) [(rd l (k : Int))] true hf _ (C_blk (k := .i64) (l := [(rd l (k : Int))]) (off := 0) B_g6 ⟨rfl, Nat.le_of_ble_eq_true rfl⟩ rfl) (Nat.le_of_ble_eq_true rfl)) ?_)
            rintro e w9 ⟨rfl, hw⟩
            have hk := kp_eq hw (fun _ => False)
            replace B_g1 := kp_blk B_g1 hk (fun h => h)
            replace B_g6 := kp_blk B_g6 hk (fun h => h)
            replace K_0 := K_0.then_ hk (fun _ h => h.elim)
            refine ⟨_, rfl, ?_⟩
            clear hE a; intro a hE
            refine q0 p96_4_7 hE (st_not rfl rfl) ?_
            clear hE a; intro a hE
            refine q0 p96_4_8 hE (st_move rfl) ?_
            clear hE a; intro a hE
            refine p_cons (s_still p96_4_9 hE (wn_some g96_4_8 rfl rfl) rfl (st_move rfl) ?_)
            clear hE a; intro a hE
            refine p_cons (s_still p96_4_10 hE (wn_some g96_4_8 rfl rfl) rfl (st_fieldAddr Try.underlying157 rfl tS3 rfl rfl) ?_)
            clear hE a; intro a hE
            refine p_cons (s_still p96_4_11 hE (wn_some g96_4_8 rfl rfl) rfl (st_load1 tA3 rfl ((blk_cell B_g1 4).trans rfl)) ?_)
            clear hE a; intro a hE
            refine p_cons (s_still p96_4_12 hE (wn_some g96_4_8 rfl rfl) rfl (st_eql (b := true) rfl rfl (decide_eq_true hP)) ?_)
            clear hE a; intro a hE
            refine p_cons (s_still p96_4_13 hE (wn_some g96_4_8 rfl rfl) rfl (st_move rfl) ?_)
            clear hE a; intro a hE
            refine p_cons (s_still p96_4_14 hE (wn_some g96_4_13 rfl rfl) rfl (st_move rfl) ?_)
            clear hE a; intro a hE
            refine p_cons (s_still p96_4_15 hE (wn_some g96_4_13 rfl rfl) rfl (st_move rfl) ?_)
            clear hE a; intro a hE
            refine p_cons (s_still p96_4_16 hE (wn_some g96_4_13 rfl rfl) rfl (st_indexAddrC (i := k) Try.underlying62 tS3 (F_B _ K_0) rfl rfl (by omega)) ?_)
            clear hE a; intro a hE
            refine p_cons (s_still (v := Value.int .i64 (rd l (k : Int))) p96_4_17 hE (wn_some g96_4_13 rfl rfl) rfl (st_loadC (i := k) tA3 (F_B _ K_0) (by omega) rfl) ?_)
            clear hE a; intro a hE
            refine p_cons (s_still p96_4_18 hE (wn_some g96_4_13 rfl rfl) rfl (st_gtr (b := true) rfl rfl (decide_eq_true hp)) ?_)
            clear hE a; intro a hE
            refine p_cons (s_still p96_4_19 hE (wn_some g96_4_8 rfl rfl) rfl (st_pick rfl rfl) ?_)
            clear hE a; intro a hE
            refine q0 p96_4_20 hE (st_pick rfl rfl) ?_
            clear hE a; intro a hE
            refine q0 p96_4_21 hE (st_move rfl) ?_
            clear hE a; intro a hE
            refine p_cons (s_skip p96_4_22 hE (wn_some g96_4_21 rfl rfl) rfl ?_)
            clear hE a; intro a hE
            refine p_cons (s_skip p96_4_23 hE (wn_some g96_4_21 rfl rfl) rfl ?_)
            clear hE a; intro a hE
            refine p_cons (s_skip p96_4_24 hE (wn_some g96_4_21 rfl rfl) rfl ?_)
            clear hE a; intro a hE
            refine p_cons (s_skip p96_4_25 hE (wn_some g96_4_21 rfl rfl) rfl ?_)
            clear hE a; intro a hE
            refine p_cons (s_skip p96_4_26 hE (wn_some g96_4_21 rfl rfl) rfl ?_)
            clear hE a; intro a hE
            refine p_cons (s_skip p96_4_27 hE (wn_undef g96_4_26 rfl) rfl ?_)
            clear hE a; intro a hE
            refine p_cons (s_skip p96_4_28 hE (wn_undef g96_4_26 rfl) rfl ?_)
            clear hE a; intro a hE
            refine p_cons (s_skip p96_4_29 hE (wn_undef g96_4_26 rfl) rfl ?_)
            clear hE a; intro a hE
            refine p_cons (s_skip p96_4_30 hE (wn_undef g96_4_26 rfl) rfl ?_)
            clear hE a; intro a hE
            refine p_cons (s_skip p96_4_31 hE (wn_undef g96_4_26 rfl) rfl ?_)
            clear hE a; intro a hE
            refine p_cons (s_skip p96_4_32 hE (wn_some g96_4_21 rfl rfl) rfl ?_)
            clear hE a; intro a hE
            refine q0 p96_4_33 hE (st_pick rfl rfl) ?_
            clear hE a; intro a hE
            refine p_nil ?_
            refine x_norm ?_
            refine c_cond (t := true) hE rfl ?_
            refine c_reg R96_5_l ?_
            refine q0 p96_5_0 hE (st_assign rfl) ?_
            clear hE a; intro a hE
            refine p_nil ?_
            refine x_norm ?_
            refine wp_ret ?_
            refine x_retB ?_
            refine x_ret ?_
            refine x_ret ?_
            refine x_retB ?_
            refine x_ret ?_
            refine ret_one (v := Value.int .i64 1) rfl hE (.tmp rfl .nil) ?_
            exact h1 (fun H => by have h9 := H k (by omega); have e1 := h9.1; have e2 := h9.2.1; have e3 := h9.2.2; have := e2 hP; omega) _ K_0
          ·
            rcases Decidable.em ((k : Int) = ze) with hZ | hZ
            ·
              rcases Decidable.em (rd l (k : Int) = 0) with hz | hz
              ·
                refine c_reg R96_4_l ?_
                refine q0 p96_4_0 hE (st_move rfl) ?_
                clear hE a; intro a hE
                refine q0 p96_4_1 hE (st_move rfl) ?_
                clear hE a; intro a hE
                refine q0 p96_4_2 hE (st_move rfl) ?_
                clear hE a; intro a hE
                refine q0 p96_4_3 hE (st_indexAddrC (i := k) Try.underlying62 tS3 (F_B _ K_0) rfl rfl (by omega)) ?_
                clear hE a; intro a hE
                refine q0 (v := Value.int .i64 (rd l (k : Int))) p96_4_4 hE (st_loadC (i := k) tA3 (F_B _ K_0) (by omega) rfl) ?_
                clear hE a; intro a hE
                refine p_cons (s_row (xs := [(0, Operand.tmp 19)]) (vs := [(0, Value.int .i64 (rd l (k : Int)))]) (cs := #[Value.int .i64 (rd l (k : Int))]) p96_4_5 hE wn_none rfl Try.underlying62 rfl (by kernel_rfl) ?_)
                clear hE a; intro g10 w11 z12 B_g10 hk a hE
                have n_g1_g10 : g1 ≠ g10 := ne_new B_g1 z12
                have z_0_g10 := Nat.le_trans K_0.kept.1 z12
                replace B_g1 := kp_blk B_g1 hk (fun h => h)
                replace K_0 := K_0.then_ hk (fun _ h => h.elim)
                clear hk
                refine p_cons (s_call (xs := [Operand.tmp 15, Operand.tmp 20]) (args := [Value.int .i64 (rd SZ (k : Int)), Value.slice (some ⟨g10, 0, none⟩) 1 1]) p96_4_6 hE wn_none rfl rfl Try.func69 cl69 (fits_any (some ⟨g10, 0, none⟩) 1 (rd SZ (k : Int)) [(rd l (k : Int))] true hf _ (C_blk (k := .i64) (l := [(rd l (k : Int))]) (off := 0) B_g10 ⟨rfl, Nat.le_of_ble_eq_true rfl⟩ rfl) (Nat.le_of_ble_eq_true rfl)) ?_)
                rintro e w13 ⟨rfl, hw⟩
                have hk := kp_eq hw (fun _ => False)
                replace B_g1 := kp_blk B_g1 hk (fun h => h)
                replace B_g10 := kp_blk B_g10 hk (fun h => h)
                replace K_0 := K_0.then_ hk (fun _ h => h.elim)
                refine ⟨_, rfl, ?_⟩
                clear hE a; intro a hE
                refine q0 p96_4_7 hE (st_not rfl rfl) ?_
                clear hE a; intro a hE
                refine q0 p96_4_8 hE (st_move rfl) ?_
                clear hE a; intro a hE
                refine p_cons (s_still p96_4_9 hE (wn_some g96_4_8 rfl rfl) rfl (st_move rfl) ?_)
                clear hE a; intro a hE
                refine p_cons (s_still p96_4_10 hE (wn_some g96_4_8 rfl rfl) rfl (st_fieldAddr Try.underlying157 rfl tS3 rfl rfl) ?_)
                clear hE a; intro a hE
                refine p_cons (s_still p96_4_11 hE (wn_some g96_4_8 rfl rfl) rfl (st_load1 tA3 rfl ((blk_cell B_g1 4).trans rfl)) ?_)
                clear hE a; intro a hE
                refine p_cons (s_still p96_4_12 hE (wn_some g96_4_8 rfl rfl) rfl (st_eql (b := true) rfl rfl (decide_eq_true hP)) ?_)
                clear hE a; intro a hE
                refine p_cons (s_still p96_4_13 hE (wn_some g96_4_8 rfl rfl) rfl (st_move rfl) ?_)
                clear hE a; intro a hE
                refine p_cons (s_still p96_4_14 hE (wn_some g96_4_13 rfl rfl) rfl (st_move rfl) ?_)
                clear hE a; intro a hE
                refine p_cons (s_still p96_4_15 hE (wn_some g96_4_13 rfl rfl) rfl (st_move rfl) ?_)
                clear hE a; intro a hE
                refine p_cons (s_still p96_4_16 hE (wn_some g96_4_13 rfl rfl) rfl (st_indexAddrC (i := k) Try.underlying62 tS3 (F_B _ K_0) rfl rfl (by omega)) ?_)
                clear hE a; intro a hE
                refine p_cons (s_still (v := Value.int .i64 (rd l (k : Int))) p96_4_17 hE (wn_some g96_4_13 rfl rfl) rfl (st_loadC (i := k) tA3 (F_B _ K_0) (by omega) rfl) ?_)
                clear hE a; intro a hE
                refine p_cons (s_still p96_4_18 hE (wn_some g96_4_13 rfl rfl) rfl (st_gtr (b := false) rfl rfl (decide_eq_false hp)) ?_)
                clear hE a; intro a hE
                refine p_cons (s_still p96_4_19 hE (wn_some g96_4_8 rfl rfl) rfl (st_pick rfl rfl) ?_)
                clear hE a; intro a hE
                refine q0 p96_4_20 hE (st_pick rfl rfl) ?_
                clear hE a; intro a hE
                refine q0 p96_4_21 hE (st_move rfl) ?_
                clear hE a; intro a hE
                refine p_cons (s_still p96_4_22 hE (wn_some g96_4_21 rfl rfl) rfl (st_move rfl) ?_)
                clear hE a; intro a hE
                refine p_cons (s_still p96_4_23 hE (wn_some g96_4_21 rfl rfl) rfl (st_fieldAddr Try.underlying157 rfl tS3 rfl rfl) ?_)
                clear hE a; intro a hE
                refine p_cons (s_still p96_4_24 hE (wn_some g96_4_21 rfl rfl) rfl (st_load1 tA3 rfl ((blk_cell B_g1 5).trans rfl)) ?_)
                clear hE a; intro a hE
                refine p_cons (s_still p96_4_25 hE (wn_some g96_4_21 rfl rfl) rfl (st_eql (b := true) rfl rfl (decide_eq_true hZ)) ?_)
                clear hE a; intro a hE
                refine p_cons (s_still p96_4_26 hE (wn_some g96_4_21 rfl rfl) rfl (st_move rfl) ?_)
                clear hE a; intro a hE
                refine p_cons (s_still p96_4_27 hE (wn_some g96_4_26 rfl rfl) rfl (st_move rfl) ?_)
                clear hE a; intro a hE
                refine p_cons (s_still p96_4_28 hE (wn_some g96_4_26 rfl rfl) rfl (st_move rfl) ?_)
                clear hE a; intro a hE
                refine p_cons (s_still p96_4_29 hE (wn_some g96_4_26 rfl rfl) rfl (st_indexAddrC (i := k) Try.underlying62 tS3 (F_B _ K_0) rfl rfl (by omega)) ?_)
                clear hE a; intro a hE
                refine p_cons (s_still (v := Value.int .i64 (rd l (k : Int))) p96_4_30 hE (wn_some g96_4_26 rfl rfl) rfl (st_loadC (i := k) tA3 (F_B _ K_0) (by omega) rfl) ?_)
                clear hE a; intro a hE
                refine p_cons (s_still p96_4_31 hE (wn_some g96_4_26 rfl rfl) rfl (st_neq (b := false) rfl rfl (by simp [hz])) ?_)
                clear hE a; intro a hE
                refine p_cons (s_still p96_4_32 hE (wn_some g96_4_21 rfl rfl) rfl (st_pick rfl rfl) ?_)
                clear hE a; intro a hE
                refine q0 p96_4_33 hE (st_pick rfl rfl) ?_
                clear hE a; intro a hE
                refine p_nil ?_
                refine x_norm ?_
                refine c_cond (t := false) hE rfl ?_
                refine wp_skip ?_
                refine x_normB ?_
                refine x_norm ?_
                refine c_regL R96_6_l ?_
                refine q0 p96_6_0 hE (st_add (z := (k : Int) + 1) rfl rfl (wr_i64 _ (by omega) (by omega))) ?_
                clear hE a; intro a hE
                refine q0 p96_6_1 hE (st_move rfl) ?_
                clear hE a; intro a hE
                refine p_nil ?_
                refine x_norm ?_
                have hok9 : okJ SZ ln ze l k := ⟨hf, fun h => by omega, fun h => hz⟩
                exact ⟨k + 1, by omega, En.sub hE ⟨rfl, rfl, rfl, rfl, rfl, rfl, trivial⟩, by omega, fun j hj => by rcases Nat.lt_succ_iff_lt_or_eq.1 hj with h | h; exact hall j h; rw [h]; exact hok9, B_g1, K_0⟩
              ·
                refine c_reg R96_4_l ?_
                refine q0 p96_4_0 hE (st_move rfl) ?_
                clear hE a; intro a hE
                refine q0 p96_4_1 hE (st_move rfl) ?_
                clear hE a; intro a hE
                refine q0 p96_4_2 hE (st_move rfl) ?_
                clear hE a; intro a hE
                refine q0 p96_4_3 hE (st_indexAddrC (i := k) Try.underlying62 tS3 (F_B _ K_0) rfl rfl (by omega)) ?_
                clear hE a; intro a hE
                refine q0 (v := Value.int .i64 (rd l (k : Int))) p96_4_4 hE (st_loadC (i := k) tA3 (F_B _ K_0) (by omega) rfl) ?_
                clear hE a; intro a hE
                refine p_cons (s_row (xs := [(0, Operand.tmp 19)]) (vs := [(0, Value.int .i64 (rd l (k : Int)))]) (cs := #[Value.int .i64 (rd l (k : Int))]) p96_4_5 hE wn_none rfl Try.underlying62 rfl (by kernel_rfl) ?_)
                clear hE a; intro g14 w15 z16 B_g14 hk a hE
                have n_g1_g14 : g1 ≠ g14 := ne_new B_g1 z16
                have z_0_g14 := Nat.le_trans K_0.kept.1 z16
                replace B_g1 := kp_blk B_g1 hk (fun h => h)
                replace K_0 := K_0.then_ hk (fun _ h => h.elim)
                clear hk
                refine p_cons (s_call (xs := [Operand.tmp 15, Operand.tmp 20]) (args := [Value.int .i64 (rd SZ (k : Int)), Value.slice (some ⟨g14, 0, none⟩) 1 1]) p96_4_6 hE wn_none rfl rfl Try.func69 cl69 (fits_any (some ⟨g14, 0, none⟩) 1 (rd SZ (k : Int)) [(rd l (k : Int))] true hf _ (C_blk (k := .i64) (l := [(rd l (k : Int))]) (off := 0) B_g14 ⟨rfl, Nat.le_of_ble_eq_true rfl⟩ rfl) (Nat.le_of_ble_eq_true rfl)) ?_)
                rintro e w17 ⟨rfl, hw⟩
                have hk := kp_eq hw (fun _ => False)
                replace B_g1 := kp_blk B_g1 hk (fun h => h)
                replace B_g14 := kp_blk B_g14 hk (fun h => h)
                replace K_0 := K_0.then_ hk (fun _ h => h.elim)
                refine ⟨_, rfl, ?_⟩
                clear hE a; intro a hE
                refine q0 p96_4_7 hE (st_not rfl rfl) ?_
                clear hE a; intro a hE
                refine q0 p96_4_8 hE (st_move rfl) ?_
                clear hE a; intro a hE
                refine p_cons (s_still p96_4_9 hE (wn_some g96_4_8 rfl rfl) rfl (st_move rfl) ?_)
                clear hE a; intro a hE
                refine p_cons (s_still p96_4_10 hE (wn_some g96_4_8 rfl rfl) rfl (st_fieldAddr Try.underlying157 rfl tS3 rfl rfl) ?_)
                clear hE a; intro a hE
                refine p_cons (s_still p96_4_11 hE (wn_some g96_4_8 rfl rfl) rfl (st_load1 tA3 rfl ((blk_cell B_g1 4).trans rfl)) ?_)
                clear hE a; intro a hE
                refine p_cons (s_still p96_4_12 hE (wn_some g96_4_8 rfl rfl) rfl (st_eql (b := true) rfl rfl (decide_eq_true hP)) ?_)
                clear hE a; intro a hE
                refine p_cons (s_still p96_4_13 hE (wn_some g96_4_8 rfl rfl) rfl (st_move rfl) ?_)
                clear hE a; intro a hE
                refine p_cons (s_still p96_4_14 hE (wn_some g96_4_13 rfl rfl) rfl (st_move rfl) ?_)
                clear hE a; intro a hE
                refine p_cons (s_still p96_4_15 hE (wn_some g96_4_13 rfl rfl) rfl (st_move rfl) ?_)
                clear hE a; intro a hE
                refine p_cons (s_still p96_4_16 hE (wn_some g96_4_13 rfl rfl) rfl (st_indexAddrC (i := k) Try.underlying62 tS3 (F_B _ K_0) rfl rfl (by omega)) ?_)
                clear hE a; intro a hE
                refine p_cons (s_still (v := Value.int .i64 (rd l (k : Int))) p96_4_17 hE (wn_some g96_4_13 rfl rfl) rfl (st_loadC (i := k) tA3 (F_B _ K_0) (by omega) rfl) ?_)
                clear hE a; intro a hE
                refine p_cons (s_still p96_4_18 hE (wn_some g96_4_13 rfl rfl) rfl (st_gtr (b := false) rfl rfl (decide_eq_false hp)) ?_)
                clear hE a; intro a hE
                refine p_cons (s_still p96_4_19 hE (wn_some g96_4_8 rfl rfl) rfl (st_pick rfl rfl) ?_)
                clear hE a; intro a hE
                refine q0 p96_4_20 hE (st_pick rfl rfl) ?_
                clear hE a; intro a hE
                refine q0 p96_4_21 hE (st_move rfl) ?_
                clear hE a; intro a hE
                refine p_cons (s_still p96_4_22 hE (wn_some g96_4_21 rfl rfl) rfl (st_move rfl) ?_)
                clear hE a; intro a hE
                refine p_cons (s_still p96_4_23 hE (wn_some g96_4_21 rfl rfl) rfl (st_fieldAddr Try.underlying157 rfl tS3 rfl rfl) ?_)
                clear hE a; intro a hE
                refine p_cons (s_still p96_4_24 hE (wn_some g96_4_21 rfl rfl) rfl (st_load1 tA3 rfl ((blk_cell B_g1 5).trans rfl)) ?_)
                clear hE a; intro a hE
                refine p_cons (s_still p96_4_25 hE (wn_some g96_4_21 rfl rfl) rfl (st_eql (b := true) rfl rfl (decide_eq_true hZ)) ?_)
                clear hE a; intro a hE
                refine p_cons (s_still p96_4_26 hE (wn_some g96_4_21 rfl rfl) rfl (st_move rfl) ?_)
                clear hE a; intro a hE
                refine p_cons (s_still p96_4_27 hE (wn_some g96_4_26 rfl rfl) rfl (st_move rfl) ?_)
                clear hE a; intro a hE
                refine p_cons (s_still p96_4_28 hE (wn_some g96_4_26 rfl rfl) rfl (st_move rfl) ?_)
                clear hE a; intro a hE
                refine p_cons (s_still p96_4_29 hE (wn_some g96_4_26 rfl rfl) rfl (st_indexAddrC (i := k) Try.underlying62 tS3 (F_B _ K_0) rfl rfl (by omega)) ?_)
                clear hE a; intro a hE
                refine p_cons (s_still (v := Value.int .i64 (rd l (k : Int))) p96_4_30 hE (wn_some g96_4_26 rfl rfl) rfl (st_loadC (i := k) tA3 (F_B _ K_0) (by omega) rfl) ?_)
                clear hE a; intro a hE
                refine p_cons (s_still p96_4_31 hE (wn_some g96_4_26 rfl rfl) rfl (st_neq (b := true) rfl rfl (by simp [hz])) ?_)
                clear hE a; intro a hE
                refine p_cons (s_still p96_4_32 hE (wn_some g96_4_21 rfl rfl) rfl (st_pick rfl rfl) ?_)
                clear hE a; intro a hE
                refine q0 p96_4_33 hE (st_pick rfl rfl) ?_
                clear hE a; intro a hE
                refine p_nil ?_
                refine x_norm ?_
                refine c_cond (t := true) hE rfl ?_
                refine c_reg R96_5_l ?_
                refine q0 p96_5_0 hE (st_assign rfl) ?_
                clear hE a; intro a hE
                refine p_nil ?_
                refine x_norm ?_
                refine wp_ret ?_
                refine x_retB ?_
                refine x_ret ?_
                refine x_ret ?_
                refine x_retB ?_
                refine x_ret ?_
                refine ret_one (v := Value.int .i64 1) rfl hE (.tmp rfl .nil) ?_
                exact h1 (fun H => by have h9 := H k (by omega); have e1 := h9.1; have e2 := h9.2.1; have e3 := h9.2.2; exact hz (e3 hZ)) _ K_0
            ·
              refine c_reg R96_4_l ?_
              refine q0 p96_4_0 hE (st_move rfl) ?_
              clear hE a; intro a hE
              refine q0 p96_4_1 hE (st_move rfl) ?_
              clear hE a; intro a hE
              refine q0 p96_4_2 hE (st_move rfl) ?_
              clear hE a; intro a hE
              refine q0 p96_4_3 hE (st_indexAddrC (i := k) Try.underlying62 tS3 (F_B _ K_0) rfl rfl (by omega)) ?_
              clear hE a; intro a hE
              refine q0 (v := Value.int .i64 (rd l (k : Int))) p96_4_4 hE (st_loadC (i := k) tA3 (F_B _ K_0) (by omega) rfl) ?_
              clear hE a; intro a hE
              refine p_cons (s_row (xs := [(0, Operand.tmp 19)]) (vs := [(0, Value.int .i64 (rd l (k : Int)))]) (cs := #[Value.int .i64 (rd l (k : Int))]) p96_4_5 hE wn_none rfl Try.underlying62 rfl (by kernel_rfl) ?_)
              clear hE a; intro g18 w19 z20 B_g18 hk a hE
              have n_g1_g18 : g1 ≠ g18 := ne_new B_g1 z20
              have z_0_g18 := Nat.le_trans K_0.kept.1 z20
              replace B_g1 := kp_blk B_g1 hk (fun h => h)
              replace K_0 := K_0.then_ hk (fun _ h => h.elim)
              clear hk
              refine p_cons (s_call (xs := [Operand.tmp 15, Operand.tmp 20]) (args := [Value.int .i64 (rd SZ (k : Int)), Value.slice (some ⟨g18, 0, none⟩) 1 1]) p96_4_6 hE wn_none rfl rfl Try.func69 cl69 (fits_any (some ⟨g18, 0, none⟩) 1 (rd SZ (k : Int)) [(rd l (k : Int))] true hf _ (C_blk (k := .i64) (l := [(rd l (k : Int))]) (off := 0) B_g18 ⟨rfl, Nat.le_of_ble_eq_true rfl⟩ rfl) (Nat.le_of_ble_eq_true rfl)) ?_)
              rintro e w21 ⟨rfl, hw⟩
              have hk := kp_eq hw (fun _ => False)
              replace B_g1 := kp_blk B_g1 hk (fun h => h)
              replace B_g18 := kp_blk B_g18 hk (fun h => h)
              replace K_0 := K_0.then_ hk (fun _ h => h.elim)
              refine ⟨_, rfl, ?_⟩
              clear hE a; intro a hE
              refine q0 p96_4_7 hE (st_not rfl rfl) ?_
              clear hE a; intro a hE
              refine q0 p96_4_8 hE (st_move rfl) ?_
              clear hE a; intro a hE
              refine p_cons (s_still p96_4_9 hE (wn_some g96_4_8 rfl rfl) rfl (st_move rfl) ?_)
              clear hE a; intro a hE
              refine p_cons (s_still p96_4_10 hE (wn_some g96_4_8 rfl rfl) rfl (st_fieldAddr Try.underlying157 rfl tS3 rfl rfl) ?_)
              clear hE a; intro a hE
              refine p_cons (s_still p96_4_11 hE (wn_some g96_4_8 rfl rfl) rfl (st_load1 tA3 rfl ((blk_cell B_g1 4).trans rfl)) ?_)
              clear hE a; intro a hE
              refine p_cons (s_still p96_4_12 hE (wn_some g96_4_8 rfl rfl) rfl (st_eql (b := true) rfl rfl (decide_eq_true hP)) ?_)
              clear hE a; intro a hE
              refine p_cons (s_still p96_4_13 hE (wn_some g96_4_8 rfl rfl) rfl (st_move rfl) ?_)
              clear hE a; intro a hE
              refine p_cons (s_still p96_4_14 hE (wn_some g96_4_13 rfl rfl) rfl (st_move rfl) ?_)
              clear hE a; intro a hE
              refine p_cons (s_still p96_4_15 hE (wn_some g96_4_13 rfl rfl) rfl (st_move rfl) ?_)
              clear hE a; intro a hE
              refine p_cons (s_still p96_4_16 hE (wn_some g96_4_13 rfl rfl) rfl (st_indexAddrC (i := k) Try.underlying62 tS3 (F_B _ K_0) rfl rfl (by omega)) ?_)
              clear hE a; intro a hE
              refine p_cons (s_still (v := Value.int .i64 (rd l (k : Int))) p96_4_17 hE (wn_some g96_4_13 rfl rfl) rfl (st_loadC (i := k) tA3 (F_B _ K_0) (by omega) rfl) ?_)
              clear hE a; intro a hE
              refine p_cons (s_still p96_4_18 hE (wn_some g96_4_13 rfl rfl) rfl (st_gtr (b := false) rfl rfl (decide_eq_false hp)) ?_)
              clear hE a; intro a hE
              refine p_cons (s_still p96_4_19 hE (wn_some g96_4_8 rfl rfl) rfl (st_pick rfl rfl) ?_)
              clear hE a; intro a hE
              refine q0 p96_4_20 hE (st_pick rfl rfl) ?_
              clear hE a; intro a hE
              refine q0 p96_4_21 hE (st_move rfl) ?_
              clear hE a; intro a hE
              refine p_cons (s_still p96_4_22 hE (wn_some g96_4_21 rfl rfl) rfl (st_move rfl) ?_)
              clear hE a; intro a hE
              refine p_cons (s_still p96_4_23 hE (wn_some g96_4_21 rfl rfl) rfl (st_fieldAddr Try.underlying157 rfl tS3 rfl rfl) ?_)
              clear hE a; intro a hE
              refine p_cons (s_still p96_4_24 hE (wn_some g96_4_21 rfl rfl) rfl (st_load1 tA3 rfl ((blk_cell B_g1 5).trans rfl)) ?_)
              clear hE a; intro a hE
              refine p_cons (s_still p96_4_25 hE (wn_some g96_4_21 rfl rfl) rfl (st_eql (b := false) rfl rfl (decide_eq_false hZ)) ?_)
              clear hE a; intro a hE
              refine p_cons (s_still p96_4_26 hE (wn_some g96_4_21 rfl rfl) rfl (st_move rfl) ?_)
              clear hE a; intro a hE
              refine p_cons (s_skip p96_4_27 hE (wn_some g96_4_26 rfl rfl) rfl ?_)
              clear hE a; intro a hE
              refine p_cons (s_skip p96_4_28 hE (wn_some g96_4_26 rfl rfl) rfl ?_)
              clear hE a; intro a hE
              refine p_cons (s_skip p96_4_29 hE (wn_some g96_4_26 rfl rfl) rfl ?_)
              clear hE a; intro a hE
              refine p_cons (s_skip p96_4_30 hE (wn_some g96_4_26 rfl rfl) rfl ?_)
              clear hE a; intro a hE
              refine p_cons (s_skip p96_4_31 hE (wn_some g96_4_26 rfl rfl) rfl ?_)
              clear hE a; intro a hE
              refine p_cons (s_still p96_4_32 hE (wn_some g96_4_21 rfl rfl) rfl (st_pick rfl rfl) ?_)
              clear hE a; intro a hE
              refine q0 p96_4_33 hE (st_pick rfl rfl) ?_
              clear hE a; intro a hE
              refine p_nil ?_
              refine x_norm ?_
              refine c_cond (t := false) hE rfl ?_
              refine wp_skip ?_
              refine x_normB ?_
              refine x_norm ?_
              refine c_regL R96_6_l ?_
              refine q0 p96_6_0 hE (st_add (z := (k : Int) + 1) rfl rfl (wr_i64 _ (by omega) (by omega))) ?_
              clear hE a; intro a hE
              refine q0 p96_6_1 hE (st_move rfl) ?_
              clear hE a; intro a hE
              refine p_nil ?_
              refine x_norm ?_
              have hok9 : okJ SZ ln ze l k := ⟨hf, fun h => by omega, fun h => absurd h hZ⟩
              exact ⟨k + 1, by omega, En.sub hE ⟨rfl, rfl, rfl, rfl, rfl, rfl, trivial⟩, by omega, fun j hj => by rcases Nat.lt_succ_iff_lt_or_eq.1 hj with h | h; exact hall j h; rw [h]; exact hok9, B_g1, K_0⟩
        ·
          rcases Decidable.em ((k : Int) = ze) with hZ | hZ
          ·
            rcases Decidable.em (rd l (k : Int) = 0) with hz | hz
            ·
              refine c_reg R96_4_l ?_
              refine q0 p96_4_0 hE (st_move rfl) ?_
              clear hE a; intro a hE
              refine q0 p96_4_1 hE (st_move rfl) ?_
              clear hE a; intro a hE
              refine q0 p96_4_2 hE (st_move rfl) ?_
              clear hE a; intro a hE
              refine q0 p96_4_3 hE (st_indexAddrC (i := k) Try.underlying62 tS3 (F_B _ K_0) rfl rfl (by omega)) ?_
              clear hE a; intro a hE
              refine q0 (v := Value.int .i64 (rd l (k : Int))) p96_4_4 hE (st_loadC (i := k) tA3 (F_B _ K_0) (by omega) rfl) ?_
              clear hE a; intro a hE
              refine p_cons (s_row (xs := [(0, Operand.tmp 19)]) (vs := [(0, Value.int .i64 (rd l (k : Int)))]) (cs := #[Value.int .i64 (rd l (k : Int))]) p96_4_5 hE wn_none rfl Try.underlying62 rfl (by kernel_rfl) ?_)
              clear hE a; intro g22 w23 z24 B_g22 hk a hE
              have n_g1_g22 : g1 ≠ g22 := ne_new B_g1 z24
              have z_0_g22 := Nat.le_trans K_0.kept.1 z24
              replace B_g1 := kp_blk B_g1 hk (fun h => h)
              replace K_0 := K_0.then_ hk (fun _ h => h.elim)
              clear hk
              refine p_cons (s_call (xs := [Operand.tmp 15, Operand.tmp 20]) (args := [Value.int .i64 (rd SZ (k : Int)), Value.slice (some ⟨g22, 0, none⟩) 1 1]) p96_4_6 hE wn_none rfl rfl Try.func69 cl69 (fits_any (some ⟨g22, 0, none⟩) 1 (rd SZ (k : Int)) [(rd l (k : Int))] true hf _ (C_blk (k := .i64) (l := [(rd l (k : Int))]) (off := 0) B_g22 ⟨rfl, Nat.le_of_ble_eq_true rfl⟩ rfl) (Nat.le_of_ble_eq_true rfl)) ?_)
              rintro e w25 ⟨rfl, hw⟩
              have hk := kp_eq hw (fun _ => False)
              replace B_g1 := kp_blk B_g1 hk (fun h => h)
              replace B_g22 := kp_blk B_g22 hk (fun h => h)
              replace K_0 := K_0.then_ hk (fun _ h => h.elim)
              refine ⟨_, rfl, ?_⟩
              clear hE a; intro a hE
              refine q0 p96_4_7 hE (st_not rfl rfl) ?_
              clear hE a; intro a hE
              refine q0 p96_4_8 hE (st_move rfl) ?_
              clear hE a; intro a hE
              refine p_cons (s_still p96_4_9 hE (wn_some g96_4_8 rfl rfl) rfl (st_move rfl) ?_)
              clear hE a; intro a hE
              refine p_cons (s_still p96_4_10 hE (wn_some g96_4_8 rfl rfl) rfl (st_fieldAddr Try.underlying157 rfl tS3 rfl rfl) ?_)
              clear hE a; intro a hE
              refine p_cons (s_still p96_4_11 hE (wn_some g96_4_8 rfl rfl) rfl (st_load1 tA3 rfl ((blk_cell B_g1 4).trans rfl)) ?_)
              clear hE a; intro a hE
              refine p_cons (s_still p96_4_12 hE (wn_some g96_4_8 rfl rfl) rfl (st_eql (b := false) rfl rfl (decide_eq_false hP)) ?_)
              clear hE a; intro a hE
              refine p_cons (s_still p96_4_13 hE (wn_some g96_4_8 rfl rfl) rfl (st_move rfl) ?_)
              clear hE a; intro a hE
              refine p_cons (s_skip p96_4_14 hE (wn_some g96_4_13 rfl rfl) rfl ?_)
              clear hE a; intro a hE
              refine p_cons (s_skip p96_4_15 hE (wn_some g96_4_13 rfl rfl) rfl ?_)
              clear hE a; intro a hE
              refine p_cons (s_skip p96_4_16 hE (wn_some g96_4_13 rfl rfl) rfl ?_)
              clear hE a; intro a hE
              refine p_cons (s_skip p96_4_17 hE (wn_some g96_4_13 rfl rfl) rfl ?_)
              clear hE a; intro a hE
              refine p_cons (s_skip p96_4_18 hE (wn_some g96_4_13 rfl rfl) rfl ?_)
              clear hE a; intro a hE
              refine p_cons (s_still p96_4_19 hE (wn_some g96_4_8 rfl rfl) rfl (st_pick rfl rfl) ?_)
              clear hE a; intro a hE
              refine q0 p96_4_20 hE (st_pick rfl rfl) ?_
              clear hE a; intro a hE
              refine q0 p96_4_21 hE (st_move rfl) ?_
              clear hE a; intro a hE
              refine p_cons (s_still p96_4_22 hE (wn_some g96_4_21 rfl rfl) rfl (st_move rfl) ?_)
              clear hE a; intro a hE
              refine p_cons (s_still p96_4_23 hE (wn_some g96_4_21 rfl rfl) rfl (st_fieldAddr Try.underlying157 rfl tS3 rfl rfl) ?_)
              clear hE a; intro a hE
              refine p_cons (s_still p96_4_24 hE (wn_some g96_4_21 rfl rfl) rfl (st_load1 tA3 rfl ((blk_cell B_g1 5).trans rfl)) ?_)
              clear hE a; intro a hE
              refine p_cons (s_still p96_4_25 hE (wn_some g96_4_21 rfl rfl) rfl (st_eql (b := true) rfl rfl (decide_eq_true hZ)) ?_)
              clear hE a; intro a hE
              refine p_cons (s_still p96_4_26 hE (wn_some g96_4_21 rfl rfl) rfl (st_move rfl) ?_)
              clear hE a; intro a hE
              refine p_cons (s_still p96_4_27 hE (wn_some g96_4_26 rfl rfl) rfl (st_move rfl) ?_)
              clear hE a; intro a hE
              refine p_cons (s_still p96_4_28 hE (wn_some g96_4_26 rfl rfl) rfl (st_move rfl) ?_)
              clear hE a; intro a hE
              refine p_cons (s_still p96_4_29 hE (wn_some g96_4_26 rfl rfl) rfl (st_indexAddrC (i := k) Try.underlying62 tS3 (F_B _ K_0) rfl rfl (by omega)) ?_)
              clear hE a; intro a hE
              refine p_cons (s_still (v := Value.int .i64 (rd l (k : Int))) p96_4_30 hE (wn_some g96_4_26 rfl rfl) rfl (st_loadC (i := k) tA3 (F_B _ K_0) (by omega) rfl) ?_)
              clear hE a; intro a hE
              refine p_cons (s_still p96_4_31 hE (wn_some g96_4_26 rfl rfl) rfl (st_neq (b := false) rfl rfl (by simp [hz])) ?_)
              clear hE a; intro a hE
              refine p_cons (s_still p96_4_32 hE (wn_some g96_4_21 rfl rfl) rfl (st_pick rfl rfl) ?_)
              clear hE a; intro a hE
              refine q0 p96_4_33 hE (st_pick rfl rfl) ?_
              clear hE a; intro a hE
              refine p_nil ?_
              refine x_norm ?_
              refine c_cond (t := false) hE rfl ?_
              refine wp_skip ?_
              refine x_normB ?_
              refine x_norm ?_
              refine c_regL R96_6_l ?_
              refine q0 p96_6_0 hE (st_add (z := (k : Int) + 1) rfl rfl (wr_i64 _ (by omega) (by omega))) ?_
              clear hE a; intro a hE
              refine q0 p96_6_1 hE (st_move rfl) ?_
              clear hE a; intro a hE
              refine p_nil ?_
              refine x_norm ?_
              have hok9 : okJ SZ ln ze l k := ⟨hf, fun h => absurd h hP, fun h => hz⟩
              exact ⟨k + 1, by omega, En.sub hE ⟨rfl, rfl, rfl, rfl, rfl, rfl, trivial⟩, by omega, fun j hj => by rcases Nat.lt_succ_iff_lt_or_eq.1 hj with h | h; exact hall j h; rw [h]; exact hok9, B_g1, K_0⟩
            ·
              refine c_reg R96_4_l ?_
              refine q0 p96_4_0 hE (st_move rfl) ?_
              clear hE a; intro a hE
              refine q0 p96_4_1 hE (st_move rfl) ?_
              clear hE a; intro a hE
              refine q0 p96_4_2 hE (st_move rfl) ?_
              clear hE a; intro a hE
              refine q0 p96_4_3 hE (st_indexAddrC (i := k) Try.underlying62 tS3 (F_B _ K_0) rfl rfl (by omega)) ?_
              clear hE a; intro a hE
              refine q0 (v := Value.int .i64 (rd l (k : Int))) p96_4_4 hE (st_loadC (i := k) tA3 (F_B _ K_0) (by omega) rfl) ?_
              clear hE a; intro a hE
              refine p_cons (s_row (xs := [(0, Operand.tmp 19)]) (vs := [(0, Value.int .i64 (rd l (k : Int)))]) (cs := #[Value.int .i64 (rd l (k : Int))]) p96_4_5 hE wn_none rfl Try.underlying62 rfl (by kernel_rfl) ?_)
              clear hE a; intro g26 w27 z28 B_g26 hk a hE
              have n_g1_g26 : g1 ≠ g26 := ne_new B_g1 z28
              have z_0_g26 := Nat.le_trans K_0.kept.1 z28
              replace B_g1 := kp_blk B_g1 hk (fun h => h)
              replace K_0 := K_0.then_ hk (fun _ h => h.elim)
              clear hk
              refine p_cons (s_call (xs := [Operand.tmp 15, Operand.tmp 20]) (args := [Value.int .i64 (rd SZ (k : Int)), Value.slice (some ⟨g26, 0, none⟩) 1 1]) p96_4_6 hE wn_none rfl rfl Try.func69 cl69 (fits_any (some ⟨g26, 0, none⟩) 1 (rd SZ (k : Int)) [(rd l (k : Int))] true hf _ (C_blk (k := .i64) (l := [(rd l (k : Int))]) (off := 0) B_g26 ⟨rfl, Nat.le_of_ble_eq_true rfl⟩ rfl) (Nat.le_of_ble_eq_true rfl)) ?_)
              rintro e w29 ⟨rfl, hw⟩
              have hk := kp_eq hw (fun _ => False)
              replace B_g1 := kp_blk B_g1 hk (fun h => h)
              replace B_g26 := kp_blk B_g26 hk (fun h => h)
              replace K_0 := K_0.then_ hk (fun _ h => h.elim)
              refine ⟨_, rfl, ?_⟩
              clear hE a; intro a hE
              refine q0 p96_4_7 hE (st_not rfl rfl) ?_
              clear hE a; intro a hE
              refine q0 p96_4_8 hE (st_move rfl) ?_
              clear hE a; intro a hE
              refine p_cons (s_still p96_4_9 hE (wn_some g96_4_8 rfl rfl) rfl (st_move rfl) ?_)
              clear hE a; intro a hE
              refine p_cons (s_still p96_4_10 hE (wn_some g96_4_8 rfl rfl) rfl (st_fieldAddr Try.underlying157 rfl tS3 rfl rfl) ?_)
              clear hE a; intro a hE
              refine p_cons (s_still p96_4_11 hE (wn_some g96_4_8 rfl rfl) rfl (st_load1 tA3 rfl ((blk_cell B_g1 4).trans rfl)) ?_)
              clear hE a; intro a hE
              refine p_cons (s_still p96_4_12 hE (wn_some g96_4_8 rfl rfl) rfl (st_eql (b := false) rfl rfl (decide_eq_false hP)) ?_)
              clear hE a; intro a hE
              refine p_cons (s_still p96_4_13 hE (wn_some g96_4_8 rfl rfl) rfl (st_move rfl) ?_)
              clear hE a; intro a hE
              refine p_cons (s_skip p96_4_14 hE (wn_some g96_4_13 rfl rfl) rfl ?_)
              clear hE a; intro a hE
              refine p_cons (s_skip p96_4_15 hE (wn_some g96_4_13 rfl rfl) rfl ?_)
              clear hE a; intro a hE
              refine p_cons (s_skip p96_4_16 hE (wn_some g96_4_13 rfl rfl) rfl ?_)
              clear hE a; intro a hE
              refine p_cons (s_skip p96_4_17 hE (wn_some g96_4_13 rfl rfl) rfl ?_)
              clear hE a; intro a hE
              refine p_cons (s_skip p96_4_18 hE (wn_some g96_4_13 rfl rfl) rfl ?_)
              clear hE a; intro a hE
              refine p_cons (s_still p96_4_19 hE (wn_some g96_4_8 rfl rfl) rfl (st_pick rfl rfl) ?_)
              clear hE a; intro a hE
              refine q0 p96_4_20 hE (st_pick rfl rfl) ?_
              clear hE a; intro a hE
              refine q0 p96_4_21 hE (st_move rfl) ?_
              clear hE a; intro a hE
              refine p_cons (s_still p96_4_22 hE (wn_some g96_4_21 rfl rfl) rfl (st_move rfl) ?_)
              clear hE a; intro a hE
              refine p_cons (s_still p96_4_23 hE (wn_some g96_4_21 rfl rfl) rfl (st_fieldAddr Try.underlying157 rfl tS3 rfl rfl) ?_)
              clear hE a; intro a hE
              refine p_cons (s_still p96_4_24 hE (wn_some g96_4_21 rfl rfl) rfl (st_load1 tA3 rfl ((blk_cell B_g1 5).trans rfl)) ?_)
              clear hE a; intro a hE
              refine p_cons (s_still p96_4_25 hE (wn_some g96_4_21 rfl rfl) rfl (st_eql (b := true) rfl rfl (decide_eq_true hZ)) ?_)
              clear hE a; intro a hE
              refine p_cons (s_still p96_4_26 hE (wn_some g96_4_21 rfl rfl) rfl (st_move rfl) ?_)
              clear hE a; intro a hE
              refine p_cons (s_still p96_4_27 hE (wn_some g96_4_26 rfl rfl) rfl (st_move rfl) ?_)
              clear hE a; intro a hE
              refine p_cons (s_still p96_4_28 hE (wn_some g96_4_26 rfl rfl) rfl (st_move rfl) ?_)
              clear hE a; intro a hE
              refine p_cons (s_still p96_4_29 hE (wn_some g96_4_26 rfl rfl) rfl (st_indexAddrC (i := k) Try.underlying62 tS3 (F_B _ K_0) rfl rfl (by omega)) ?_)
              clear hE a; intro a hE
              refine p_cons (s_still (v := Value.int .i64 (rd l (k : Int))) p96_4_30 hE (wn_some g96_4_26 rfl rfl) rfl (st_loadC (i := k) tA3 (F_B _ K_0) (by omega) rfl) ?_)
              clear hE a; intro a hE
              refine p_cons (s_still p96_4_31 hE (wn_some g96_4_26 rfl rfl) rfl (st_neq (b := true) rfl rfl (by simp [hz])) ?_)
              clear hE a; intro a hE
              refine p_cons (s_still p96_4_32 hE (wn_some g96_4_21 rfl rfl) rfl (st_pick rfl rfl) ?_)
              clear hE a; intro a hE
              refine q0 p96_4_33 hE (st_pick rfl rfl) ?_
              clear hE a; intro a hE
              refine p_nil ?_
              refine x_norm ?_
              refine c_cond (t := true) hE rfl ?_
              refine c_reg R96_5_l ?_
              refine q0 p96_5_0 hE (st_assign rfl) ?_
              clear hE a; intro a hE
              refine p_nil ?_
              refine x_norm ?_
              refine wp_ret ?_
              refine x_retB ?_
              refine x_ret ?_
              refine x_ret ?_
              refine x_retB ?_
              refine x_ret ?_
              refine ret_one (v := Value.int .i64 1) rfl hE (.tmp rfl .nil) ?_
              exact h1 (fun H => by have h9 := H k (by omega); have e1 := h9.1; have e2 := h9.2.1; have e3 := h9.2.2; exact hz (e3 hZ)) _ K_0
          ·
            refine c_reg R96_4_l ?_
            refine q0 p96_4_0 hE (st_move rfl) ?_
            clear hE a; intro a hE
            refine q0 p96_4_1 hE (st_move rfl) ?_
            clear hE a; intro a hE
            refine q0 p96_4_2 hE (st_move rfl) ?_
            clear hE a; intro a hE
            refine q0 p96_4_3 hE (st_indexAddrC (i := k) Try.underlying62 tS3 (F_B _ K_0) rfl rfl (by omega)) ?_
            clear hE a; intro a hE
            refine q0 (v := Value.int .i64 (rd l (k : Int))) p96_4_4 hE (st_loadC (i := k) tA3 (F_B _ K_0) (by omega) rfl) ?_
            clear hE a; intro a hE
            refine p_cons (s_row (xs := [(0, Operand.tmp 19)]) (vs := [(0, Value.int .i64 (rd l (k : Int)))]) (cs := #[Value.int .i64 (rd l (k : Int))]) p96_4_5 hE wn_none rfl Try.underlying62 rfl (by kernel_rfl) ?_)
            clear hE a; intro g30 w31 z32 B_g30 hk a hE
            have n_g1_g30 : g1 ≠ g30 := ne_new B_g1 z32
            have z_0_g30 := Nat.le_trans K_0.kept.1 z32
            replace B_g1 := kp_blk B_g1 hk (fun h => h)
            replace K_0 := K_0.then_ hk (fun _ h => h.elim)
            clear hk
            refine p_cons (s_call (xs := [Operand.tmp 15, Operand.tmp 20]) (args := [Value.int .i64 (rd SZ (k : Int)), Value.slice (some ⟨g30, 0, none⟩) 1 1]) p96_4_6 hE wn_none rfl rfl Try.func69 cl69 (fits_any (some ⟨g30, 0, none⟩) 1 (rd SZ (k : Int)) [(rd l (k : Int))] true hf _ (C_blk (k := .i64) (l := [(rd l (k : Int))]) (off := 0) B_g30 ⟨rfl, Nat.le_of_ble_eq_true rfl⟩ rfl) (Nat.le_of_ble_eq_true rfl)) ?_)
            rintro e w33 ⟨rfl, hw⟩
            have hk := kp_eq hw (fun _ => False)
            replace B_g1 := kp_blk B_g1 hk (fun h => h)
            replace B_g30 := kp_blk B_g30 hk (fun h => h)
            replace K_0 := K_0.then_ hk (fun _ h => h.elim)
            refine ⟨_, rfl, ?_⟩
            clear hE a; intro a hE
            refine q0 p96_4_7 hE (st_not rfl rfl) ?_
            clear hE a; intro a hE
            refine q0 p96_4_8 hE (st_move rfl) ?_
            clear hE a; intro a hE
            refine p_cons (s_still p96_4_9 hE (wn_some g96_4_8 rfl rfl) rfl (st_move rfl) ?_)
            clear hE a; intro a hE
            refine p_cons (s_still p96_4_10 hE (wn_some g96_4_8 rfl rfl) rfl (st_fieldAddr Try.underlying157 rfl tS3 rfl rfl) ?_)
            clear hE a; intro a hE
            refine p_cons (s_still p96_4_11 hE (wn_some g96_4_8 rfl rfl) rfl (st_load1 tA3 rfl ((blk_cell B_g1 4).trans rfl)) ?_)
            clear hE a; intro a hE
            refine p_cons (s_still p96_4_12 hE (wn_some g96_4_8 rfl rfl) rfl (st_eql (b := false) rfl rfl (decide_eq_false hP)) ?_)
            clear hE a; intro a hE
            refine p_cons (s_still p96_4_13 hE (wn_some g96_4_8 rfl rfl) rfl (st_move rfl) ?_)
            clear hE a; intro a hE
            refine p_cons (s_skip p96_4_14 hE (wn_some g96_4_13 rfl rfl) rfl ?_)
            clear hE a; intro a hE
            refine p_cons (s_skip p96_4_15 hE (wn_some g96_4_13 rfl rfl) rfl ?_)
            clear hE a; intro a hE
            refine p_cons (s_skip p96_4_16 hE (wn_some g96_4_13 rfl rfl) rfl ?_)
            clear hE a; intro a hE
            refine p_cons (s_skip p96_4_17 hE (wn_some g96_4_13 rfl rfl) rfl ?_)
            clear hE a; intro a hE
            refine p_cons (s_skip p96_4_18 hE (wn_some g96_4_13 rfl rfl) rfl ?_)
            clear hE a; intro a hE
            refine p_cons (s_still p96_4_19 hE (wn_some g96_4_8 rfl rfl) rfl (st_pick rfl rfl) ?_)
            clear hE a; intro a hE
            refine q0 p96_4_20 hE (st_pick rfl rfl) ?_
            clear hE a; intro a hE
            refine q0 p96_4_21 hE (st_move rfl) ?_
            clear hE a; intro a hE
            refine p_cons (s_still p96_4_22 hE (wn_some g96_4_21 rfl rfl) rfl (st_move rfl) ?_)
            clear hE a; intro a hE
            refine p_cons (s_still p96_4_23 hE (wn_some g96_4_21 rfl rfl) rfl (st_fieldAddr Try.underlying157 rfl tS3 rfl rfl) ?_)
            clear hE a; intro a hE
            refine p_cons (s_still p96_4_24 hE (wn_some g96_4_21 rfl rfl) rfl (st_load1 tA3 rfl ((blk_cell B_g1 5).trans rfl)) ?_)
            clear hE a; intro a hE
            refine p_cons (s_still p96_4_25 hE (wn_some g96_4_21 rfl rfl) rfl (st_eql (b := false) rfl rfl (decide_eq_false hZ)) ?_)
            clear hE a; intro a hE
            refine p_cons (s_still p96_4_26 hE (wn_some g96_4_21 rfl rfl) rfl (st_move rfl) ?_)
            clear hE a; intro a hE
            refine p_cons (s_skip p96_4_27 hE (wn_some g96_4_26 rfl rfl) rfl ?_)
            clear hE a; intro a hE
            refine p_cons (s_skip p96_4_28 hE (wn_some g96_4_26 rfl rfl) rfl ?_)
            clear hE a; intro a hE
            refine p_cons (s_skip p96_4_29 hE (wn_some g96_4_26 rfl rfl) rfl ?_)
            clear hE a; intro a hE
            refine p_cons (s_skip p96_4_30 hE (wn_some g96_4_26 rfl rfl) rfl ?_)
            clear hE a; intro a hE
            refine p_cons (s_skip p96_4_31 hE (wn_some g96_4_26 rfl rfl) rfl ?_)
            clear hE a; intro a hE
            refine p_cons (s_still p96_4_32 hE (wn_some g96_4_21 rfl rfl) rfl (st_pick rfl rfl) ?_)
            clear hE a; intro a hE
            refine q0 p96_4_33 hE (st_pick rfl rfl) ?_
            clear hE a; intro a hE
            refine p_nil ?_
            refine x_norm ?_
            refine c_cond (t := false) hE rfl ?_
            refine wp_skip ?_
            refine x_normB ?_
            refine x_norm ?_
            refine c_regL R96_6_l ?_
            refine q0 p96_6_0 hE (st_add (z := (k : Int) + 1) rfl rfl (wr_i64 _ (by omega) (by omega))) ?_
            clear hE a; intro a hE
            refine q0 p96_6_1 hE (st_move rfl) ?_
            clear hE a; intro a hE
            refine p_nil ?_
            refine x_norm ?_
            have hok9 : okJ SZ ln ze l k := ⟨hf, fun h => absurd h hP, fun h => absurd h hZ⟩
            exact ⟨k + 1, by omega, En.sub hE ⟨rfl, rfl, rfl, rfl, rfl, rfl, trivial⟩, by omega, fun j hj => by rcases Nat.lt_succ_iff_lt_or_eq.1 hj with h | h; exact hall j h; rw [h]; exact hok9, B_g1, K_0⟩
      ·
        refine c_reg R96_4_l ?_
        refine q0 p96_4_0 hE (st_move rfl) ?_
        clear hE a; intro a hE
        refine q0 p96_4_1 hE (st_move rfl) ?_
        clear hE a; intro a hE
        refine q0 p96_4_2 hE (st_move rfl) ?_
        clear hE a; intro a hE
        refine q0 p96_4_3 hE (st_indexAddrC (i := k) Try.underlying62 tS3 (F_B _ K_0) rfl rfl (by omega)) ?_
        clear hE a; intro a hE
        refine q0 (v := Value.int .i64 (rd l (k : Int))) p96_4_4 hE (st_loadC (i := k) tA3 (F_B _ K_0) (by omega) rfl) ?_
        clear hE a; intro a hE
        refine p_cons (s_row (xs := [(0, Operand.tmp 19)]) (vs := [(0, Value.int .i64 (rd l (k : Int)))]) (cs := #[Value.int .i64 (rd l (k : Int))]) p96_4_5 hE wn_none rfl Try.underlying62 rfl (by kernel_rfl) ?_)
        clear hE a; intro g34 w35 z36 B_g34 hk a hE
        have n_g1_g34 : g1 ≠ g34 := ne_new B_g1 z36
        have z_0_g34 := Nat.le_trans K_0.kept.1 z36
        replace B_g1 := kp_blk B_g1 hk (fun h => h)
        replace K_0 := K_0.then_ hk (fun _ h => h.elim)
        clear hk
        refine p_cons (s_call (xs := [Operand.tmp 15, Operand.tmp 20]) (args := [Value.int .i64 (rd SZ (k : Int)), Value.slice (some ⟨g34, 0, none⟩) 1 1]) p96_4_6 hE wn_none rfl rfl Try.func69 cl69 (fits_any (some ⟨g34, 0, none⟩) 1 (rd SZ (k : Int)) [(rd l (k : Int))] false (by simpa using hf) _ (C_blk (k := .i64) (l := [(rd l (k : Int))]) (off := 0) B_g34 ⟨rfl, Nat.le_of_ble_eq_true rfl⟩ rfl) (Nat.le_of_ble_eq_true rfl)) ?_)
        rintro e w37 ⟨rfl, hw⟩
        have hk := kp_eq hw (fun _ => False)
        replace B_g1 := kp_blk B_g1 hk (fun h => h)
        replace B_g34 := kp_blk B_g34 hk (fun h => h)
        replace K_0 := K_0.then_ hk (fun _ h => h.elim)
        refine ⟨_, rfl, ?_⟩
        clear hE a; intro a hE
        refine q0 p96_4_7 hE (st_not rfl rfl) ?_
        clear hE a; intro a hE
        refine q0 p96_4_8 hE (st_move rfl) ?_
        clear hE a; intro a hE
        refine p_cons (s_skip p96_4_9 hE (wn_some g96_4_8 rfl rfl) rfl ?_)
        clear hE a; intro a hE
        refine p_cons (s_skip p96_4_10 hE (wn_some g96_4_8 rfl rfl) rfl ?_)
        clear hE a; intro a hE
        refine p_cons (s_skip p96_4_11 hE (wn_some g96_4_8 rfl rfl) rfl ?_)
        clear hE a; intro a hE
        refine p_cons (s_skip p96_4_12 hE (wn_some g96_4_8 rfl rfl) rfl ?_)
        clear hE a; intro a hE
        refine p_cons (s_skip p96_4_13 hE (wn_some g96_4_8 rfl rfl) rfl ?_)
        clear hE a; intro a hE
        refine p_cons (s_skip p96_4_14 hE (wn_undef g96_4_13 rfl) rfl ?_)
        clear hE a; intro a hE
        refine p_cons (s_skip p96_4_15 hE (wn_undef g96_4_13 rfl) rfl ?_)
        clear hE a; intro a hE
        refine p_cons (s_skip p96_4_16 hE (wn_undef g96_4_13 rfl) rfl ?_)
        clear hE a; intro a hE
        refine p_cons (s_skip p96_4_17 hE (wn_undef g96_4_13 rfl) rfl ?_)
        clear hE a; intro a hE
        refine p_cons (s_skip p96_4_18 hE (wn_undef g96_4_13 rfl) rfl ?_)
        clear hE a; intro a hE
        refine p_cons (s_skip p96_4_19 hE (wn_some g96_4_8 rfl rfl) rfl ?_)
        clear hE a; intro a hE
        refine q0 p96_4_20 hE (st_pick rfl rfl) ?_
        clear hE a; intro a hE
        refine q0 p96_4_21 hE (st_move rfl) ?_
        clear hE a; intro a hE
        refine p_cons (s_skip p96_4_22 hE (wn_some g96_4_21 rfl rfl) rfl ?_)
        clear hE a; intro a hE
        refine p_cons (s_skip p96_4_23 hE (wn_some g96_4_21 rfl rfl) rfl ?_)
        clear hE a; intro a hE
        refine p_cons (s_skip p96_4_24 hE (wn_some g96_4_21 rfl rfl) rfl ?_)
        clear hE a; intro a hE
        refine p_cons (s_skip p96_4_25 hE (wn_some g96_4_21 rfl rfl) rfl ?_)
        clear hE a; intro a hE
        refine p_cons (s_skip p96_4_26 hE (wn_some g96_4_21 rfl rfl) rfl ?_)
        clear hE a; intro a hE
        refine p_cons (s_skip p96_4_27 hE (wn_undef g96_4_26 rfl) rfl ?_)
        clear hE a; intro a hE
        refine p_cons (s_skip p96_4_28 hE (wn_undef g96_4_26 rfl) rfl ?_)
        clear hE a; intro a hE
        refine p_cons (s_skip p96_4_29 hE (wn_undef g96_4_26 rfl) rfl ?_)
        clear hE a; intro a hE
        refine p_cons (s_skip p96_4_30 hE (wn_undef g96_4_26 rfl) rfl ?_)
        clear hE a; intro a hE
        refine p_cons (s_skip p96_4_31 hE (wn_undef g96_4_26 rfl) rfl ?_)
        clear hE a; intro a hE
        refine p_cons (s_skip p96_4_32 hE (wn_some g96_4_21 rfl rfl) rfl ?_)
        clear hE a; intro a hE
        refine q0 p96_4_33 hE (st_pick rfl rfl) ?_
        clear hE a; intro a hE
        refine p_nil ?_
        refine x_norm ?_
        refine c_cond (t := true) hE rfl ?_
        refine c_reg R96_5_l ?_
        refine q0 p96_5_0 hE (st_assign rfl) ?_
        clear hE a; intro a hE
        refine p_nil ?_
        refine x_norm ?_
        refine wp_ret ?_
        refine x_retB ?_
        refine x_ret ?_
        refine x_ret ?_
        refine x_retB ?_
        refine x_ret ?_
        refine ret_one (v := Value.int .i64 1) rfl hE (.tmp rfl .nil) ?_
        exact h1 (fun H => by have h9 := H k (by omega); have e1 := h9.1; have e2 := h9.2.1; have e3 := h9.2.2; exact hf e1) _ K_0
    ·
      refine p_cons (s_still (v := Value.bool false) p96_2_0 hE wn_none rfl (st_lss rfl rfl (decide_eq_false hc5)) ?_)
      clear hE a; intro a hE
      refine p_nil ?_
      refine x_norm ?_
      refine wp_seq ?_
      refine c_cond (t := false) hE rfl ?_
      refine wp_exit ?_
      refine x_exit ?_
      refine x_exit ?_
      obtain rfl : k = SZ.length := by omega
      refine x_in ?_
      refine x_norm ?_
      refine c_reg R96_7_l ?_
      refine q0 p96_7_0 hE (st_assign rfl) ?_
      clear hE a; intro a hE
      refine p_nil ?_
      refine x_norm ?_
      refine wp_ret ?_
      refine ret_one (v := Value.int .i64 0) rfl hE (.tmp rfl .nil) ?_
      exact h0 hall _ K_0
def numB (SZ : List Int) (ln ze : Int) (l : List Int) : Bool := (List.range SZ.length).all fun j => fitsF (rd SZ (j : Int)) [rd l (j : Int)] && (!decide ((j : Int) = ln) || decide (rd l (j : Int) ≤ 128)) && (!decide ((j : Int) = ze) || decide (rd l (j : Int) = 0))
theorem numB_iff (SZ : List Int) (ln ze : Int) (l : List Int) : numB SZ ln ze l = true ↔ numOK SZ ln ze l := by
  unfold numB numOK
  rw [List.all_eq_true]
  constructor
  · intro h j hj
    have := h j (List.mem_range.2 hj)
    simp only [Bool.and_eq_true, Bool.or_eq_true, Bool.not_eq_true', decide_eq_false_iff_not, decide_eq_true_eq] at this
    exact ⟨this.1.1, fun e => this.1.2.resolve_left (fun h => h e), fun e => this.2.resolve_left (fun h => h e)⟩
  · intro h j hj
    obtain ⟨a, b, c⟩ := h j (List.mem_range.1 hj)
    simp only [Bool.and_eq_true, Bool.or_eq_true, Bool.not_eq_true', decide_eq_false_iff_not, decide_eq_true_eq]
    refine ⟨⟨a, ?_⟩, ?_⟩
    · by_cases e : (j : Int) = ln
      · exact .inr (b e)
      · exact .inl e
    · by_cases e : (j : Int) = ze
      · exact .inr (c e)
      · exact .inl e
theorem num_any (WD : ByteArray) (A B : Option Addr) (c cb nb : Nat) (be ln ze : Int) (ad : Bool) (SZ l : List Int) (b : Bool) (hb : numB SZ ln ze l = b) (hln : nb = SZ.length) (hSZ : SZ.length ≤ 1000) (w : World) (F_A : ∀ W', Kp w W' (fun _ => False) → Kd.C (Kd.int .i64) W' A SZ.length SZ) (F_B : ∀ W', Kp w W' (fun _ => False) → Kd.C (Kd.int .i64) W' B nb l) : Calls Try.prog 96 #[Value.agg #[Value.string WD, Value.slice A SZ.length c, Value.int .i64 be, Value.bool ad, Value.int .i64 ln, Value.int .i64 ze], .slice B nb cb] w fun e w' => e = .returned (.int .i64 (if b = true then 0 else 1)) ∧ Kp w w' (fun _ => False) :=
  num_R WD A B c cb nb be ln ze ad SZ l hln hSZ w F_A F_B (fun h w' hk => ⟨by rw [← hb, (numB_iff SZ ln ze l).2 h]; rfl, hk⟩) (fun h w' hk => ⟨by
    have : numB SZ ln ze l ≠ true := fun h2 => h ((numB_iff SZ ln ze l).1 h2)
    rw [← hb, if_neg this], hk⟩)
theorem of_okb (k : Nat) (hk : k ≤ 9) (b : Bool) (hb : addrF k = b) (w : World) : Calls Try.prog 93 #[.int .i64 (k : Int)] w fun e w' => ∃ A c, e = .returned (.tuple #[.agg #[.string (wordF k), .slice A (sizesF k).length c, .int .i64 (behindF k), .bool b, .int .i64 (lenF k), .int .i64 (zeroF k)], .bool true]) ∧ (∀ W', Kp w' W' (fun _ => False) → Kd.C (Kd.int .i64) W' A (sizesF k).length (sizesF k)) ∧ (sizesF k).length ≤ c ∧ Kp w w' (fun _ => False) := by
  subst hb; exact of_ok k hk w
theorem sizes_len (k : Nat) : (sizesF k).length ≤ 10 := by
  unfold sizesF; split <;> decide
/-- What is wrong with an option. -/
def chkF (k nb : Nat) (l : List Int) (f : Nat → Int) (tn : Nat) : Int := if ¬ nb = (sizesF k).length ∨ (¬ eqL (b16 f) (b16 (fun _ => 0)) = true ∧ ¬ addrF k = true) ∨ (0 < tn ∧ ¬ k = 2) then 3 else if ¬ numB (sizesF k) (lenF k) (zeroF k) l = true then 1 else if 64 < tn then 2 else 0
def chkO (kk : Int) (nb : Nat) (l : List Int) (f : Nat → Int) (tn : Nat) : Int := if 0 ≤ kk ∧ kk ≤ 9 then chkF kk.toNat nb l f tn else 6
theorem R95_0_l : List.range (regOf Try.f95 0).size = [0] := by kernel_rfl
theorem R95_1_l : List.range (regOf Try.f95 1).size = [0, 1, 2] := by kernel_rfl
theorem body95 : Try.f95.body = some (.seq (.region 0 (regOf Try.f95 0) false) (.seq (.region 1 (regOf Try.f95 1) false) (.ret))) := by kernel_rfl
theorem p95_0_0 : pj (regOf Try.f95 0) 0 = some (some 2, .assign (.const (.bool false)), 4, none) := by kernel_rfl
theorem p95_1_0 : pj (regOf Try.f95 1) 0 = some (some 3, .move (.tmp 0), 3, none) := by kernel_rfl
theorem p95_1_1 : pj (regOf Try.f95 1) 1 = some (some 4, .binOp .eql 3 (.tmp 3) (.const (.int .i64 2)) 3, 4, none) := by kernel_rfl
theorem p95_1_2 : pj (regOf Try.f95 1) 2 = some (some 2, .assign (.tmp 4), 4, none) := by kernel_rfl
set_option maxHeartbeats 4000000 in
theorem texts_any (x : Int) (b : Bool) (hb : decide (x = 2) = b) (w : World) : Calls Try.prog 95 #[.int .i64 x] w fun e w' => e = .returned (.bool b) ∧ Kp w w' (fun _ => False) := by
  have K_0 := Kp.refl w (fun _ => False)
  refine enter (args := [Value.int .i64 x]) (n := 5) Try.func95 body95 rfl rfl rfl ?_
  intro a hE
  refine c_reg R95_0_l ?_
  refine q0 p95_0_0 hE (st_assign rfl) ?_
  clear hE a; intro a hE
  refine p_nil ?_
  refine x_norm ?_
  refine c_reg R95_1_l ?_
  refine q0 p95_1_0 hE (st_move rfl) ?_
  clear hE a; intro a hE
  refine q0 p95_1_1 hE (st_eql (b := b) rfl rfl hb) ?_
  clear hE a; intro a hE
  refine q0 p95_1_2 hE (st_assign rfl) ?_
  clear hE a; intro a hE
  refine p_nil ?_
  refine x_norm ?_
  refine wp_ret ?_
  refine ret_one (v := Value.bool b) rfl hE (.tmp rfl .nil) ?_
  exact ⟨rfl, K_0⟩
section
variable {P : Program} {t e : TypeId} {d n s o : Nat} {k : IntKind} {l ks : List (Option IntKind)}
theorem flat_int (hu : P.underlying t = some (.int k)) : flat P (d + 1) t = some [some k] := by unfold flat; rw [hu]
theorem flat_bool (hu : P.underlying t = some .bool) : flat P (d + 1) t = some [none] := by unfold flat; rw [hu]
theorem flat_arr (hu : P.underlying t = some (.array n e)) (he : flat P d e = some l) (hi : (P.info? e).map (·.size) = some s) (hs : s = l.length) (hA : flat.isAggT P e = true ∨ l.length = 1) : flat P (d + 1) t = some (List.replicate n l).flatten := by
  obtain ⟨i, h9, h8⟩ := Option.map_eq_some_iff.1 hi; subst h8
  unfold flat; rw [hu]; show (match flat P d e, P.info? e with | some l, some i => if i.size = l.length ∧ (flat.isAggT P e = true ∨ l.length = 1) then some (List.replicate n l).flatten else none | _, _ => none) = _; rw [he, h9]; exact if_pos ⟨hs, hA⟩
theorem flat_struct {fs : Array Field} (hu : P.underlying t = some (.struct fs)) (hst : P.stoodInHeld t = false) (hf : flat.flatF P d fs.toList 0 = some ks) : flat P (d + 1) t = some ks := by
  unfold flat; rw [hu]; simp only [hst]; exact hf
theorem flatF_nil : flat.flatF P d [] o = some [] := by unfold flat.flatF; rfl
theorem flatF_cons {f : Field} {fs : List Field} (he : flat P d f.type = some l) (hi : (P.info? f.type).map (·.size) = some s) (hs : s = l.length) (hA : flat.isAggT P f.type = true ∨ l.length = 1) (hn : f.name ≠ "_") (ho : f.offset = o) (hr : flat.flatF P d fs (o + l.length) = some ks) : flat.flatF P d (f :: fs) o = some (l ++ ks) := by
  obtain ⟨i, h9, h8⟩ := Option.map_eq_some_iff.1 hi; subst h8
  unfold flat.flatF; rw [he, h9]; exact (if_pos ⟨hn, ho, hs, hA⟩).trans (by rw [hr]; rfl)
end
theorem eqZ_ks : flat Try.prog 9 25 = some ([some .u8, some .u8, some .u8, some .u8, some .u8, some .u8, some .u8, some .u8, some .u8, some .u8, some .u8, some .u8, some .u8, some .u8, some .u8, some .u8]) := Eq.trans (flat_arr Try.underlying25 (flat_int Try.underlying5) (by kernel_rfl) rfl (Or.inr rfl)) rfl
theorem R47_0_l : List.range (regOf Try.f47 0).size = [0, 1] := by kernel_rfl
theorem R47_1_l : List.range (regOf Try.f47 1).size = [0, 1, 2, 3, 4, 5, 6, 7, 8] := by kernel_rfl
theorem R47_2_l : List.range (regOf Try.f47 2).size = [0, 1, 2] := by kernel_rfl
theorem R47_3_l : List.range (regOf Try.f47 3).size = [0] := by kernel_rfl
theorem R47_4_l : List.range (regOf Try.f47 4).size = [0, 1, 2, 3, 4, 5, 6, 7, 8, 9, 10, 11, 12, 13, 14, 15, 16, 17, 18, 19, 20, 21, 22, 23, 24, 25, 26, 27, 28, 29, 30] := by kernel_rfl
theorem R47_5_l : List.range (regOf Try.f47 5).size = [0] := by kernel_rfl
theorem R47_6_l : List.range (regOf Try.f47 6).size = [0, 1, 2, 3, 4] := by kernel_rfl
theorem R47_7_l : List.range (regOf Try.f47 7).size = [0, 1] := by kernel_rfl
theorem R47_8_l : List.range (regOf Try.f47 8).size = [0, 1] := by kernel_rfl
theorem R47_9_l : List.range (regOf Try.f47 9).size = [0, 1, 2, 3] := by kernel_rfl
theorem R47_10_l : List.range (regOf Try.f47 10).size = [0] := by kernel_rfl
theorem R47_11_l : List.range (regOf Try.f47 11).size = [0] := by kernel_rfl
theorem body47 : Try.f47.body = some (.seq (.region 0 (regOf Try.f47 0) false) (.seq (.region 1 (regOf Try.f47 1) false) (.seq (.block 0 (.seq (.region 2 (regOf Try.f47 2) false) (.cond (Operand.tmp 12) (.seq (.region 3 (regOf Try.f47 3) false) (.ret)) (.seq (.region 4 (regOf Try.f47 4) false) (.cond (Operand.tmp 15) (.seq (.region 5 (regOf Try.f47 5) false) (.ret)) (.skip)))))) (.seq (.seq (.region 6 (regOf Try.f47 6) false) (.seq (.region 7 (regOf Try.f47 7) false) (.cond (Operand.tmp 51) (.seq (.region 8 (regOf Try.f47 8) false) (.ret)) (.skip)))) (.seq (.seq (.region 9 (regOf Try.f47 9) false) (.cond (Operand.tmp 56) (.seq (.region 10 (regOf Try.f47 10) false) (.ret)) (.skip))) (.seq (.region 11 (regOf Try.f47 11) false) (.ret))))))) := by kernel_rfl
theorem p47_0_0 : pj (regOf Try.f47 0) 0 = some (some 1, .box 64 (.tmp 0), 0, none) := by kernel_rfl
theorem p47_0_1 : pj (regOf Try.f47 0) 1 = some (some 2, .assign (.const (.int .i64 0)), 29, none) := by kernel_rfl
theorem p47_1_0 : pj (regOf Try.f47 1) 0 = some (some 7, .fieldAddr 64 (.tmp 1) 0, 0, none) := by kernel_rfl
theorem p47_1_1 : pj (regOf Try.f47 1) 1 = some (some 8, .load 3 (.tmp 7), 3, none) := by kernel_rfl
theorem p47_1_2 : pj (regOf Try.f47 1) 2 = some (some 9, .call { callee := .value (.func 93), args := #[.tmp 8], argTypes := #[3] }, 158, none) := by kernel_rfl
theorem cl93 : callable Try.f93 = true := by kernel_rfl
theorem p47_1_3 : pj (regOf Try.f47 1) 3 = some (some 6, .move (.tmp 9), 158, none) := by kernel_rfl
theorem p47_1_4 : pj (regOf Try.f47 1) 4 = some (some 10, .extract (.tmp 6) 0, 157, none) := by kernel_rfl
theorem p47_1_5 : pj (regOf Try.f47 1) 5 = some (some 11, .extract (.tmp 6) 1, 4, none) := by kernel_rfl
theorem p47_1_6 : pj (regOf Try.f47 1) 6 = some (some 3, .alloc 157, 0, none) := by kernel_rfl
theorem tZ157 : (Try.prog.info? 157).bind (·.zero) = some (Value.agg #[Value.string ByteArray.empty, Value.slice none 0 0, Value.int .i64 0, Value.bool false, Value.int .i64 0, Value.int .i64 0]) := by kernel_rfl
theorem p47_1_7 : pj (regOf Try.f47 1) 7 = some (none, .store 157 (.tmp 3) (.tmp 10), 0, none) := by kernel_rfl
theorem tS157 : (Try.prog.info? 157).map (·.size) = some 6 := by kernel_rfl
theorem p47_1_8 : pj (regOf Try.f47 1) 8 = some (some 4, .assign (.tmp 11), 4, none) := by kernel_rfl
theorem p47_2_0 : pj (regOf Try.f47 2) 0 = some (some 13, .move (.tmp 4), 4, none) := by kernel_rfl
theorem p47_2_1 : pj (regOf Try.f47 2) 1 = some (some 14, .unOp .not 4 (.tmp 13), 4, none) := by kernel_rfl
theorem p47_2_2 : pj (regOf Try.f47 2) 2 = some (some 12, .assign (.tmp 14), 4, none) := by kernel_rfl
theorem p47_4_0 : pj (regOf Try.f47 4) 0 = some (some 16, .fieldAddr 64 (.tmp 1) 1, 0, none) := by kernel_rfl
theorem p47_4_1 : pj (regOf Try.f47 4) 1 = some (some 17, .load 62 (.tmp 16), 62, none) := by kernel_rfl
theorem p47_4_2 : pj (regOf Try.f47 4) 2 = some (some 18, .call { callee := .builtin .len, args := #[.tmp 17], argTypes := #[62] }, 3, none) := by kernel_rfl
theorem p47_4_3 : pj (regOf Try.f47 4) 3 = some (some 19, .fieldAddr 157 (.tmp 3) 1, 0, none) := by kernel_rfl
theorem p47_4_4 : pj (regOf Try.f47 4) 4 = some (some 20, .load 62 (.tmp 19), 62, none) := by kernel_rfl
theorem p47_4_5 : pj (regOf Try.f47 4) 5 = some (some 21, .call { callee := .builtin .len, args := #[.tmp 20], argTypes := #[62] }, 3, none) := by kernel_rfl
theorem p47_4_6 : pj (regOf Try.f47 4) 6 = some (some 22, .binOp .neq 3 (.tmp 18) (.tmp 21) 3, 4, none) := by kernel_rfl
theorem p47_4_7 : pj (regOf Try.f47 4) 7 = some (some 23, .move (.tmp 22), 4, none) := by kernel_rfl
theorem p47_4_8 : pj (regOf Try.f47 4) 8 = some (some 24, .fieldAddr 64 (.tmp 1) 2, 0, some (7, false)) := by kernel_rfl
theorem g47_4_7 : dstOf (regOf Try.f47 4) 7 = some 23 := by kernel_rfl
theorem tS25 : (Try.prog.info? 25).map (·.size) = some 16 := by kernel_rfl
theorem p47_4_9 : pj (regOf Try.f47 4) 9 = some (some 25, .load 25 (.tmp 24), 25, some (7, false)) := by kernel_rfl
theorem tA25 : (Try.prog.underlying 25).map aggD = some true := by kernel_rfl
theorem p47_4_10 : pj (regOf Try.f47 4) 10 = some (some 26, .build 25 #[], 25, some (7, false)) := by kernel_rfl
theorem p47_4_11 : pj (regOf Try.f47 4) 11 = some (some 27, .binOp .neq 25 (.tmp 25) (.tmp 26) 25, 4, some (7, false)) := by kernel_rfl
theorem eg25 : Try.prog.eqGuardType Try.prog.depth 25 = false := by kernel_rfl
theorem p47_4_12 : pj (regOf Try.f47 4) 12 = some (some 28, .move (.tmp 27), 4, some (7, false)) := by kernel_rfl
theorem p47_4_13 : pj (regOf Try.f47 4) 13 = some (some 29, .fieldAddr 157 (.tmp 3) 3, 0, some (12, true)) := by kernel_rfl
theorem g47_4_12 : dstOf (regOf Try.f47 4) 12 = some 28 := by kernel_rfl
theorem p47_4_14 : pj (regOf Try.f47 4) 14 = some (some 30, .load 4 (.tmp 29), 4, some (12, true)) := by kernel_rfl
theorem p47_4_15 : pj (regOf Try.f47 4) 15 = some (some 31, .unOp .not 4 (.tmp 30), 4, some (12, true)) := by kernel_rfl
theorem p47_4_16 : pj (regOf Try.f47 4) 16 = some (some 32, .pick (.tmp 28) (.tmp 31) (.const (.bool false)), 4, some (7, false)) := by kernel_rfl
theorem p47_4_17 : pj (regOf Try.f47 4) 17 = some (some 33, .pick (.tmp 23) (.const (.bool true)) (.tmp 32), 4, none) := by kernel_rfl
theorem p47_4_18 : pj (regOf Try.f47 4) 18 = some (some 34, .move (.tmp 33), 4, none) := by kernel_rfl
theorem p47_4_19 : pj (regOf Try.f47 4) 19 = some (some 35, .fieldAddr 64 (.tmp 1) 3, 0, some (18, false)) := by kernel_rfl
theorem g47_4_18 : dstOf (regOf Try.f47 4) 18 = some 34 := by kernel_rfl
theorem tS36 : (Try.prog.info? 36).map (·.size) = some 1 := by kernel_rfl
theorem p47_4_20 : pj (regOf Try.f47 4) 20 = some (some 36, .load 36 (.tmp 35), 36, some (18, false)) := by kernel_rfl
theorem tA36 : (Try.prog.underlying 36).map aggD = some false := by kernel_rfl
theorem p47_4_21 : pj (regOf Try.f47 4) 21 = some (some 37, .call { callee := .builtin .len, args := #[.tmp 36], argTypes := #[36] }, 3, some (18, false)) := by kernel_rfl
theorem p47_4_22 : pj (regOf Try.f47 4) 22 = some (some 38, .binOp .gtr 3 (.tmp 37) (.const (.int .i64 0)) 3, 4, some (18, false)) := by kernel_rfl
theorem p47_4_23 : pj (regOf Try.f47 4) 23 = some (some 39, .move (.tmp 38), 4, some (18, false)) := by kernel_rfl
theorem p47_4_24 : pj (regOf Try.f47 4) 24 = some (some 40, .fieldAddr 64 (.tmp 1) 0, 0, some (23, true)) := by kernel_rfl
theorem g47_4_23 : dstOf (regOf Try.f47 4) 23 = some 39 := by kernel_rfl
theorem p47_4_25 : pj (regOf Try.f47 4) 25 = some (some 41, .load 3 (.tmp 40), 3, some (23, true)) := by kernel_rfl
theorem p47_4_26 : pj (regOf Try.f47 4) 26 = some (some 42, .call { callee := .value (.func 95), args := #[.tmp 41], argTypes := #[3] }, 4, some (23, true)) := by kernel_rfl
theorem cl95 : callable Try.f95 = true := by kernel_rfl
theorem p47_4_27 : pj (regOf Try.f47 4) 27 = some (some 43, .unOp .not 4 (.tmp 42), 4, some (23, true)) := by kernel_rfl
theorem p47_4_28 : pj (regOf Try.f47 4) 28 = some (some 44, .pick (.tmp 39) (.tmp 43) (.const (.bool false)), 4, some (18, false)) := by kernel_rfl
theorem p47_4_29 : pj (regOf Try.f47 4) 29 = some (some 45, .pick (.tmp 34) (.const (.bool true)) (.tmp 44), 4, none) := by kernel_rfl
theorem p47_4_30 : pj (regOf Try.f47 4) 30 = some (some 15, .assign (.tmp 45), 4, none) := by kernel_rfl
theorem p47_6_0 : pj (regOf Try.f47 6) 0 = some (some 46, .load 157 (.tmp 3), 157, none) := by kernel_rfl
theorem tA157 : (Try.prog.underlying 157).map aggD = some true := by kernel_rfl
theorem p47_6_1 : pj (regOf Try.f47 6) 1 = some (some 47, .fieldAddr 64 (.tmp 1) 1, 0, none) := by kernel_rfl
theorem p47_6_2 : pj (regOf Try.f47 6) 2 = some (some 48, .load 62 (.tmp 47), 62, none) := by kernel_rfl
theorem p47_6_3 : pj (regOf Try.f47 6) 3 = some (some 49, .call { callee := .value (.func 96), args := #[.tmp 46, .tmp 48], argTypes := #[157, 62] }, 29, none) := by kernel_rfl
theorem cl96 : callable Try.f96 = true := by kernel_rfl
theorem p47_6_4 : pj (regOf Try.f47 6) 4 = some (some 5, .assign (.tmp 49), 29, none) := by kernel_rfl
theorem p47_7_0 : pj (regOf Try.f47 7) 0 = some (some 50, .move (.tmp 5), 29, none) := by kernel_rfl
theorem p47_7_1 : pj (regOf Try.f47 7) 1 = some (some 51, .binOp .neq 29 (.tmp 50) (.const (.int .i64 0)) 29, 4, none) := by kernel_rfl
theorem p47_9_0 : pj (regOf Try.f47 9) 0 = some (some 53, .fieldAddr 64 (.tmp 1) 3, 0, none) := by kernel_rfl
theorem p47_9_1 : pj (regOf Try.f47 9) 1 = some (some 54, .load 36 (.tmp 53), 36, none) := by kernel_rfl
theorem p47_9_2 : pj (regOf Try.f47 9) 2 = some (some 55, .call { callee := .builtin .len, args := #[.tmp 54], argTypes := #[36] }, 3, none) := by kernel_rfl
theorem p47_9_3 : pj (regOf Try.f47 9) 3 = some (some 56, .binOp .gtr 3 (.tmp 55) (.const (.int .i64 64)) 3, 4, none) := by kernel_rfl
theorem p47_10_0 : pj (regOf Try.f47 10) 0 = some (some 2, .assign (.const (.int .i64 2)), 29, none) := by kernel_rfl
theorem p47_11_0 : pj (regOf Try.f47 11) 0 = some (some 2, .assign (.const (.int .i64 0)), 29, none) := by kernel_rfl
theorem p47_8_0 : pj (regOf Try.f47 8) 0 = some (some 52, .move (.tmp 5), 29, none) := by kernel_rfl
theorem p47_8_1 : pj (regOf Try.f47 8) 1 = some (some 2, .assign (.tmp 52), 29, none) := by kernel_rfl
theorem p47_5_0 : pj (regOf Try.f47 5) 0 = some (some 2, .assign (.const (.int .i64 3)), 29, none) := by kernel_rfl
theorem tS4 : (Try.prog.info? 4).map (·.size) = some 1 := by kernel_rfl
theorem tA4 : (Try.prog.underlying 4).map aggD = some false := by kernel_rfl
theorem p47_3_0 : pj (regOf Try.f47 3) 0 = some (some 2, .assign (.const (.int .i64 6)), 29, none) := by kernel_rfl
set_option maxHeartbeats 4000000 in
theorem check_any (kk : Int) (B T : Option Addr) (nb cb tn ct : Nat) (l : List Int) (f : Nat → Int) (w : World) (F_B : ∀ W', Kp w W' (fun _ => False) → Kd.C (Kd.int .i64) W' B nb l) : Calls Try.prog 47 #[Value.agg (([Value.int .i64 kk, Value.slice B nb cb] ++ b16 f ++ [Value.slice T tn ct])).toArray] w fun e w' => e = .returned (.int .i64 (chkO kk nb l f tn)) ∧ Kp w w' (fun _ => False) := by
  have K_0 := Kp.refl w (fun _ => False)
  refine enter (args := [Value.agg (([Value.int .i64 kk, Value.slice B nb cb] ++ b16 f ++ [Value.slice T tn ct])).toArray]) (n := 57) Try.func47 body47 rfl rfl rfl ?_
  intro a hE
  refine c_reg R47_0_l ?_
  refine p_cons (s_box p47_0_0 hE wn_none rfl rfl ?_)
  clear hE a; intro g1 w2 z3 B_g1 hk a hE
  replace B_g1 : w2.heap[g1]? = some (.cells (([Value.int .i64 kk, Value.slice B nb cb] ++ b16 f ++ [Value.slice T tn ct])).toArray 64 (0, 0)) := B_g1
  have z_0_g1 := Nat.le_trans K_0.kept.1 z3
  replace K_0 := K_0.then_ hk (fun _ h => h.elim)
  clear hk
  refine q0 p47_0_1 hE (st_assign rfl) ?_
  clear hE a; intro a hE
  refine p_nil ?_
  refine x_norm ?_
  rcases Decidable.em (0 ≤ kk ∧ kk ≤ 9) with hKN | hKN
  ·
    obtain ⟨k, rfl⟩ : ∃ k : Nat, kk = (k : Int) := ⟨kk.toNat, by omega⟩
    have hk9 : k ≤ 9 := by omega
    rcases Decidable.em (addrF k = true) with hAD | hAD
    ·
      refine c_reg R47_1_l ?_
      refine q0 p47_1_0 hE (st_fieldAddr Try.underlying64 rfl tS3 rfl rfl) ?_
      clear hE a; intro a hE
      refine q0 p47_1_1 hE (st_load1 tA3 rfl ((blk_cell B_g1 0).trans rfl)) ?_
      clear hE a; intro a hE
      refine p_cons (s_call (xs := [Operand.tmp 8]) (args := [Value.int .i64 (k : Int)]) p47_1_2 hE wn_none rfl rfl Try.func93 cl93 (of_okb k hk9 true hAD _) ?_)
      rintro e w4 ⟨A1, c1, rfl, hF1, hc1, hk⟩
      replace B_g1 := kp_blk B_g1 hk (fun h => h)
      replace K_0 := K_0.then_ hk (fun _ h => h.elim)
      have K_s5 := Kp.refl w4 (fun _ => False)
      have F_1 : ∀ W', Kp w4 W' (fun _ => False) → Kd.C (Kd.int .i64) W' A1 (sizesF k).length (sizesF k) := hF1
      refine ⟨_, rfl, ?_⟩
      clear hE a; intro a hE
      refine q0 p47_1_3 hE (st_move rfl) ?_
      clear hE a; intro a hE
      refine q0 p47_1_4 hE (st_extract rfl rfl) ?_
      clear hE a; intro a hE
      refine q0 p47_1_5 hE (st_extract rfl rfl) ?_
      clear hE a; intro a hE
      refine p_cons (s_alloc p47_1_6 hE wn_none rfl tZ157 ?_)
      clear hE a; intro g6 w7 z8 B_g6 hk a hE
      replace B_g6 : w7.heap[g6]? = some (.cells #[Value.string ByteArray.empty, Value.slice none 0 0, Value.int .i64 0, Value.bool false, Value.int .i64 0, Value.int .i64 0] 157 (0, 0)) := B_g6
      have n_g1_g6 : g1 ≠ g6 := ne_new B_g1 z8
      have z_0_g6 := Nat.le_trans K_0.kept.1 z8
      have z_s5_g6 := Nat.le_trans K_s5.kept.1 z8
      replace B_g1 := kp_blk B_g1 hk (fun h => h)
      replace K_0 := K_0.then_ hk (fun _ h => h.elim)
      replace K_s5 := K_s5.then_ hk (fun _ h => h.elim)
      clear hk
      refine p_cons (s_store (off := 0) (k := 6) (cs' := #[Value.string (wordF k), Value.slice A1 ((sizesF k).length) c1, Value.int .i64 (behindF k), Value.bool true, Value.int .i64 (lenF k), Value.int .i64 (zeroF k)]) p47_1_7 hE wn_none tS157 rfl rfl rfl rfl B_g6 (Nat.le_of_ble_eq_true rfl) rfl ?_)
      intro w9 B_g6' hk
      replace B_g1 := kp_blk B_g1 hk n_g1_g6
      replace K_0 := K_0.then_ hk (fun k h => by rw [show k = g6 from h]; exact Or.inr z_0_g6)
      replace K_s5 := K_s5.then_ hk (fun k h => by rw [show k = g6 from h]; exact Or.inr z_s5_g6)
      replace B_g6 := B_g6'
      clear hk
      refine q0 p47_1_8 hE (st_assign rfl) ?_
      clear hE a; intro a hE
      refine p_nil ?_
      refine x_norm ?_
      refine wp_seq ?_
      refine wp_block ?_
      refine c_reg R47_2_l ?_
      refine q0 p47_2_0 hE (st_move rfl) ?_
      clear hE a; intro a hE
      refine q0 p47_2_1 hE (st_not rfl rfl) ?_
      clear hE a; intro a hE
      refine q0 p47_2_2 hE (st_assign rfl) ?_
      clear hE a; intro a hE
      refine p_nil ?_
      refine x_norm ?_
      refine c_cond (t := false) hE rfl ?_
      rcases Decidable.em (nb = (sizesF k).length) with hL | hL
      ·
        subst hL
        rcases Decidable.em (eqL (b16 f) (b16 (fun _ => 0)) = true) with hAZ | hAZ
        ·
          rcases Decidable.em (0 < tn) with hTX | hTX
          ·
            rcases Decidable.em (k = 2) with hK2 | hK2
            ·
              refine c_reg R47_4_l ?_
              refine q0 p47_4_0 hE (st_fieldAddr Try.underlying64 rfl tS62 rfl rfl) ?_
              clear hE a; intro a hE
              refine q0 p47_4_1 hE (st_load1 tA62 rfl ((blk_cell B_g1 1).trans rfl)) ?_
              clear hE a; intro a hE
              refine q0 p47_4_2 hE (st_len Try.underlying62 rfl) ?_
              clear hE a; intro a hE
              refine q0 p47_4_3 hE (st_fieldAddr Try.underlying157 rfl tS62 rfl rfl) ?_
              clear hE a; intro a hE
              refine q0 p47_4_4 hE (st_load1 tA62 rfl ((blk_cell B_g6 1).trans rfl)) ?_
              clear hE a; intro a hE
              refine q0 p47_4_5 hE (st_len Try.underlying62 rfl) ?_
              clear hE a; intro a hE
              refine q0 p47_4_6 hE (st_neq (b := false) rfl rfl (by simp)) ?_
              clear hE a; intro a hE
              refine q0 p47_4_7 hE (st_move rfl) ?_
              clear hE a; intro a hE
              refine p_cons (s_still p47_4_8 hE (wn_some g47_4_7 rfl rfl) rfl (st_fieldAddr Try.underlying64 rfl tS25 rfl rfl) ?_)
              clear hE a; intro a hE
              refine p_cons (s_still p47_4_9 hE (wn_some g47_4_7 rfl rfl) rfl (st_loadN (off := 2) (k := 16) (vs := b16 f) tA25 tS25 rfl B_g1 rfl rfl) ?_)
              clear hE a; intro a hE
              refine p_cons (s_still p47_4_10 hE (wn_some g47_4_7 rfl rfl) rfl (st_build (xs := []) (vs := []) (cs := (b16 (fun _ => 0)).toArray) rfl (by kernel_rfl)) ?_)
              clear hE a; intro a hE
              refine p_cons (s_still p47_4_11 hE (wn_some g47_4_7 rfl rfl) rfl (st_neqA (b := true) eg25 rfl rfl (eqA_flat eqZ_ks (by kernel_rfl) rfl rfl hAZ)) ?_)
              clear hE a; intro a hE
              refine p_cons (s_still p47_4_12 hE (wn_some g47_4_7 rfl rfl) rfl (st_move rfl) ?_)
              clear hE a; intro a hE
              refine p_cons (s_skip p47_4_13 hE (wn_some g47_4_12 rfl rfl) rfl ?_)
              clear hE a; intro a hE
              refine p_cons (s_skip p47_4_14 hE (wn_some g47_4_12 rfl rfl) rfl ?_)
              clear hE a; intro a hE
              refine p_cons (s_skip p47_4_15 hE (wn_some g47_4_12 rfl rfl) rfl ?_)
              clear hE a; intro a hE
              refine p_cons (s_still p47_4_16 hE (wn_some g47_4_7 rfl rfl) rfl (st_pick rfl rfl) ?_)
              clear hE a; intro a hE
              refine q0 p47_4_17 hE (st_pick rfl rfl) ?_
              clear hE a; intro a hE
              refine q0 p47_4_18 hE (st_move rfl) ?_
              clear hE a; intro a hE
              refine p_cons (s_still p47_4_19 hE (wn_some g47_4_18 rfl rfl) rfl (st_fieldAddr Try.underlying64 rfl tS36 rfl rfl) ?_)
              clear hE a; intro a hE
              refine p_cons (s_still p47_4_20 hE (wn_some g47_4_18 rfl rfl) rfl (st_load1 tA36 rfl ((blk_cell B_g1 18).trans rfl)) ?_)
              clear hE a; intro a hE
              refine p_cons (s_still p47_4_21 hE (wn_some g47_4_18 rfl rfl) rfl (st_len Try.underlying36 rfl) ?_)
              clear hE a; intro a hE
              refine p_cons (s_still p47_4_22 hE (wn_some g47_4_18 rfl rfl) rfl (st_gtr (b := true) rfl rfl (decide_eq_true (by omega))) ?_)
              clear hE a; intro a hE
              refine p_cons (s_still p47_4_23 hE (wn_some g47_4_18 rfl rfl) rfl (st_move rfl) ?_)
              clear hE a; intro a hE
              refine p_cons (s_still p47_4_24 hE (wn_some g47_4_23 rfl rfl) rfl (st_fieldAddr Try.underlying64 rfl tS3 rfl rfl) ?_)
              clear hE a; intro a hE
              refine p_cons (s_still p47_4_25 hE (wn_some g47_4_23 rfl rfl) rfl (st_load1 tA3 rfl ((blk_cell B_g1 0).trans rfl)) ?_)
              clear hE a; intro a hE
              refine p_cons (s_call (xs := [Operand.tmp 41]) (args := [Value.int .i64 (k : Int)]) p47_4_26 hE (wn_some g47_4_23 rfl rfl) rfl rfl Try.func95 cl95 (texts_any (k : Int) true (decide_eq_true (by omega)) _) ?_)
              rintro e w10 ⟨rfl, hk⟩
              replace B_g1 := kp_blk B_g1 hk (fun h => h)
              replace B_g6 := kp_blk B_g6 hk (fun h => h)
              replace K_0 := K_0.then_ hk (fun _ h => h.elim)
              replace K_s5 := K_s5.then_ hk (fun _ h => h.elim)
              refine ⟨_, rfl, ?_⟩
              clear hE a; intro a hE
              refine p_cons (s_still p47_4_27 hE (wn_some g47_4_23 rfl rfl) rfl (st_not rfl rfl) ?_)
              clear hE a; intro a hE
              refine p_cons (s_still p47_4_28 hE (wn_some g47_4_18 rfl rfl) rfl (st_pick rfl rfl) ?_)
              clear hE a; intro a hE
              refine q0 p47_4_29 hE (st_pick rfl rfl) ?_
              clear hE a; intro a hE
              refine q0 p47_4_30 hE (st_assign rfl) ?_
              clear hE a; intro a hE
              refine p_nil ?_
              refine x_norm ?_
              refine c_cond (t := false) hE rfl ?_
              refine wp_skip ?_
              refine x_normB ?_
              refine x_norm ?_
              refine wp_seq ?_
              rcases Decidable.em (numB (sizesF k) (lenF k) (zeroF k) l = true) with hNB | hNB
              ·
                refine c_reg R47_6_l ?_
                refine q0 p47_6_0 hE (st_loadN (off := 0) (k := 6) (vs := [Value.string (wordF k), Value.slice A1 ((sizesF k).length) c1, Value.int .i64 (behindF k), Value.bool true, Value.int .i64 (lenF k), Value.int .i64 (zeroF k)]) tA157 tS157 rfl B_g6 rfl rfl) ?_
                clear hE a; intro a hE
                refine q0 p47_6_1 hE (st_fieldAddr Try.underlying64 rfl tS62 rfl rfl) ?_
                clear hE a; intro a hE
                refine q0 p47_6_2 hE (st_load1 tA62 rfl ((blk_cell B_g1 1).trans rfl)) ?_
                clear hE a; intro a hE
                refine p_cons (s_call (xs := [Operand.tmp 46, Operand.tmp 48]) (args := [Value.agg #[Value.string (wordF k), Value.slice A1 ((sizesF k).length) c1, Value.int .i64 (behindF k), Value.bool true, Value.int .i64 (lenF k), Value.int .i64 (zeroF k)], Value.slice B ((sizesF k).length) cb]) p47_6_3 hE wn_none rfl rfl Try.func96 cl96 (num_any (wordF k) A1 B c1 cb ((sizesF k).length) (behindF k) (lenF k) (zeroF k) true (sizesF k) l true hNB rfl (by have := sizes_len k; omega) _ (fun W' hk => F_1 W' (K_s5.then_ hk (fun _ h => h.elim))) (fun W' hk => F_B W' (K_0.then_ hk (fun _ h => h.elim)))) ?_)
                rintro e w11 ⟨rfl, hk⟩
                replace B_g1 := kp_blk B_g1 hk (fun h => h)
                replace B_g6 := kp_blk B_g6 hk (fun h => h)
                replace K_0 := K_0.then_ hk (fun _ h => h.elim)
                replace K_s5 := K_s5.then_ hk (fun _ h => h.elim)
                refine ⟨_, rfl, ?_⟩
                clear hE a; intro a hE
                refine q0 p47_6_4 hE (st_assign rfl) ?_
                clear hE a; intro a hE
                refine p_nil ?_
                refine x_norm ?_
                refine c_reg R47_7_l ?_
                refine q0 p47_7_0 hE (st_move rfl) ?_
                clear hE a; intro a hE
                refine q0 p47_7_1 hE (st_neq (b := false) rfl rfl (by decide)) ?_
                clear hE a; intro a hE
                refine p_nil ?_
                refine x_norm ?_
                refine c_cond (t := false) hE rfl ?_
                refine wp_skip ?_
                refine x_norm ?_
                refine wp_seq ?_
                rcases Decidable.em (64 < tn) with hT6 | hT6
                ·
                  refine c_reg R47_9_l ?_
                  refine q0 p47_9_0 hE (st_fieldAddr Try.underlying64 rfl tS36 rfl rfl) ?_
                  clear hE a; intro a hE
                  refine q0 p47_9_1 hE (st_load1 tA36 rfl ((blk_cell B_g1 18).trans rfl)) ?_
                  clear hE a; intro a hE
                  refine q0 p47_9_2 hE (st_len Try.underlying36 rfl) ?_
                  clear hE a; intro a hE
                  refine q0 p47_9_3 hE (st_gtr (b := true) rfl rfl (decide_eq_true (by omega))) ?_
                  clear hE a; intro a hE
                  refine p_nil ?_
                  refine x_norm ?_
                  refine c_cond (t := true) hE rfl ?_
                  refine c_reg R47_10_l ?_
                  refine q0 p47_10_0 hE (st_assign rfl) ?_
                  clear hE a; intro a hE
                  refine p_nil ?_
                  refine x_norm ?_
                  refine wp_ret ?_
                  refine x_ret ?_
                  refine ret_one (v := Value.int .i64 2) rfl hE (.tmp rfl .nil) ?_
                  have ec : chkO (k : Int) (sizesF k).length l f tn = chkF k (sizesF k).length l f tn := by unfold chkO; rw [if_pos ⟨by omega, by omega⟩]; rfl
                  exact ⟨by rw [ec]; unfold chkF; rw [if_neg (by intro h; rcases h with h | h | h; exact h rfl; exact h.1 hAZ; exact h.2 hK2), if_neg (fun h => h hNB), if_pos hT6], K_0⟩
                ·
                  refine c_reg R47_9_l ?_
                  refine q0 p47_9_0 hE (st_fieldAddr Try.underlying64 rfl tS36 rfl rfl) ?_
                  clear hE a; intro a hE
                  refine q0 p47_9_1 hE (st_load1 tA36 rfl ((blk_cell B_g1 18).trans rfl)) ?_
                  clear hE a; intro a hE
                  refine q0 p47_9_2 hE (st_len Try.underlying36 rfl) ?_
                  clear hE a; intro a hE
                  refine q0 p47_9_3 hE (st_gtr (b := false) rfl rfl (decide_eq_false (by omega))) ?_
                  clear hE a; intro a hE
                  refine p_nil ?_
                  refine x_norm ?_
                  refine c_cond (t := false) hE rfl ?_
                  refine wp_skip ?_
                  refine x_norm ?_
                  refine c_reg R47_11_l ?_
                  refine q0 p47_11_0 hE (st_assign rfl) ?_
                  clear hE a; intro a hE
                  refine p_nil ?_
                  refine x_norm ?_
                  refine wp_ret ?_
                  refine ret_one (v := Value.int .i64 0) rfl hE (.tmp rfl .nil) ?_
                  have ec : chkO (k : Int) (sizesF k).length l f tn = chkF k (sizesF k).length l f tn := by unfold chkO; rw [if_pos ⟨by omega, by omega⟩]; rfl
                  exact ⟨by rw [ec]; unfold chkF; rw [if_neg (by intro h; rcases h with h | h | h; exact h rfl; exact h.1 hAZ; exact h.2 hK2), if_neg (fun h => h hNB), if_neg hT6], K_0⟩
              ·
                refine c_reg R47_6_l ?_
                refine q0 p47_6_0 hE (st_loadN (off := 0) (k := 6) (vs := [Value.string (wordF k), Value.slice A1 ((sizesF k).length) c1, Value.int .i64 (behindF k), Value.bool true, Value.int .i64 (lenF k), Value.int .i64 (zeroF k)]) tA157 tS157 rfl B_g6 rfl rfl) ?_
                clear hE a; intro a hE
                refine q0 p47_6_1 hE (st_fieldAddr Try.underlying64 rfl tS62 rfl rfl) ?_
                clear hE a; intro a hE
                refine q0 p47_6_2 hE (st_load1 tA62 rfl ((blk_cell B_g1 1).trans rfl)) ?_
                clear hE a; intro a hE
                refine p_cons (s_call (xs := [Operand.tmp 46, Operand.tmp 48]) (args := [Value.agg #[Value.string (wordF k), Value.slice A1 ((sizesF k).length) c1, Value.int .i64 (behindF k), Value.bool true, Value.int .i64 (lenF k), Value.int .i64 (zeroF k)], Value.slice B ((sizesF k).length) cb]) p47_6_3 hE wn_none rfl rfl Try.func96 cl96 (num_any (wordF k) A1 B c1 cb ((sizesF k).length) (behindF k) (lenF k) (zeroF k) true (sizesF k) l false (by simpa using hNB) rfl (by have := sizes_len k; omega) _ (fun W' hk => F_1 W' (K_s5.then_ hk (fun _ h => h.elim))) (fun W' hk => F_B W' (K_0.then_ hk (fun _ h => h.elim)))) ?_)
                rintro e w12 ⟨rfl, hk⟩
                replace B_g1 := kp_blk B_g1 hk (fun h => h)
                replace B_g6 := kp_blk B_g6 hk (fun h => h)
                replace K_0 := K_0.then_ hk (fun _ h => h.elim)
                replace K_s5 := K_s5.then_ hk (fun _ h => h.elim)
                refine ⟨_, rfl, ?_⟩
                clear hE a; intro a hE
                refine q0 p47_6_4 hE (st_assign rfl) ?_
                clear hE a; intro a hE
                refine p_nil ?_
                refine x_norm ?_
                refine c_reg R47_7_l ?_
                refine q0 p47_7_0 hE (st_move rfl) ?_
                clear hE a; intro a hE
                refine q0 p47_7_1 hE (st_neq (b := true) rfl rfl (by decide)) ?_
                clear hE a; intro a hE
                refine p_nil ?_
                refine x_norm ?_
                refine c_cond (t := true) hE rfl ?_
                refine c_reg R47_8_l ?_
                refine q0 p47_8_0 hE (st_move rfl) ?_
                clear hE a; intro a hE
                refine q0 p47_8_1 hE (st_assign rfl) ?_
                clear hE a; intro a hE
                refine p_nil ?_
                refine x_norm ?_
                refine wp_ret ?_
                refine x_ret ?_
                refine ret_one (v := Value.int .i64 1) rfl hE (.tmp rfl .nil) ?_
                have ec : chkO (k : Int) (sizesF k).length l f tn = chkF k (sizesF k).length l f tn := by unfold chkO; rw [if_pos ⟨by omega, by omega⟩]; rfl
                exact ⟨by rw [ec]; unfold chkF; rw [if_neg (by intro h; rcases h with h | h | h; exact h rfl; exact h.1 hAZ; exact h.2 hK2), if_pos hNB], K_0⟩
            ·
              refine c_reg R47_4_l ?_
              refine q0 p47_4_0 hE (st_fieldAddr Try.underlying64 rfl tS62 rfl rfl) ?_
              clear hE a; intro a hE
              refine q0 p47_4_1 hE (st_load1 tA62 rfl ((blk_cell B_g1 1).trans rfl)) ?_
              clear hE a; intro a hE
              refine q0 p47_4_2 hE (st_len Try.underlying62 rfl) ?_
              clear hE a; intro a hE
              refine q0 p47_4_3 hE (st_fieldAddr Try.underlying157 rfl tS62 rfl rfl) ?_
              clear hE a; intro a hE
              refine q0 p47_4_4 hE (st_load1 tA62 rfl ((blk_cell B_g6 1).trans rfl)) ?_
              clear hE a; intro a hE
              refine q0 p47_4_5 hE (st_len Try.underlying62 rfl) ?_
              clear hE a; intro a hE
              refine q0 p47_4_6 hE (st_neq (b := false) rfl rfl (by simp)) ?_
              clear hE a; intro a hE
              refine q0 p47_4_7 hE (st_move rfl) ?_
              clear hE a; intro a hE
              refine p_cons (s_still p47_4_8 hE (wn_some g47_4_7 rfl rfl) rfl (st_fieldAddr Try.underlying64 rfl tS25 rfl rfl) ?_)
              clear hE a; intro a hE
              refine p_cons (s_still p47_4_9 hE (wn_some g47_4_7 rfl rfl) rfl (st_loadN (off := 2) (k := 16) (vs := b16 f) tA25 tS25 rfl B_g1 rfl rfl) ?_)
              clear hE a; intro a hE
              refine p_cons (s_still p47_4_10 hE (wn_some g47_4_7 rfl rfl) rfl (st_build (xs := []) (vs := []) (cs := (b16 (fun _ => 0)).toArray) rfl (by kernel_rfl)) ?_)
              clear hE a; intro a hE
              refine p_cons (s_still p47_4_11 hE (wn_some g47_4_7 rfl rfl) rfl (st_neqA (b := true) eg25 rfl rfl (eqA_flat eqZ_ks (by kernel_rfl) rfl rfl hAZ)) ?_)
              clear hE a; intro a hE
              refine p_cons (s_still p47_4_12 hE (wn_some g47_4_7 rfl rfl) rfl (st_move rfl) ?_)
              clear hE a; intro a hE
              refine p_cons (s_skip p47_4_13 hE (wn_some g47_4_12 rfl rfl) rfl ?_)
              clear hE a; intro a hE
              refine p_cons (s_skip p47_4_14 hE (wn_some g47_4_12 rfl rfl) rfl ?_)
              clear hE a; intro a hE
              refine p_cons (s_skip p47_4_15 hE (wn_some g47_4_12 rfl rfl) rfl ?_)
              clear hE a; intro a hE
              refine p_cons (s_still p47_4_16 hE (wn_some g47_4_7 rfl rfl) rfl (st_pick rfl rfl) ?_)
              clear hE a; intro a hE
              refine q0 p47_4_17 hE (st_pick rfl rfl) ?_
              clear hE a; intro a hE
              refine q0 p47_4_18 hE (st_move rfl) ?_
              clear hE a; intro a hE
              refine p_cons (s_still p47_4_19 hE (wn_some g47_4_18 rfl rfl) rfl (st_fieldAddr Try.underlying64 rfl tS36 rfl rfl) ?_)
              clear hE a; intro a hE
              refine p_cons (s_still p47_4_20 hE (wn_some g47_4_18 rfl rfl) rfl (st_load1 tA36 rfl ((blk_cell B_g1 18).trans rfl)) ?_)
              clear hE a; intro a hE
              refine p_cons (s_still p47_4_21 hE (wn_some g47_4_18 rfl rfl) rfl (st_len Try.underlying36 rfl) ?_)
              clear hE a; intro a hE
              refine p_cons (s_still p47_4_22 hE (wn_some g47_4_18 rfl rfl) rfl (st_gtr (b := true) rfl rfl (decide_eq_true (by omega))) ?_)
              clear hE a; intro a hE
              refine p_cons (s_still p47_4_23 hE (wn_some g47_4_18 rfl rfl) rfl (st_move rfl) ?_)
              clear hE a; intro a hE
              refine p_cons (s_still p47_4_24 hE (wn_some g47_4_23 rfl rfl) rfl (st_fieldAddr Try.underlying64 rfl tS3 rfl rfl) ?_)
              clear hE a; intro a hE
              refine p_cons (s_still p47_4_25 hE (wn_some g47_4_23 rfl rfl) rfl (st_load1 tA3 rfl ((blk_cell B_g1 0).trans rfl)) ?_)
              clear hE a; intro a hE
              refine p_cons (s_call (xs := [Operand.tmp 41]) (args := [Value.int .i64 (k : Int)]) p47_4_26 hE (wn_some g47_4_23 rfl rfl) rfl rfl Try.func95 cl95 (texts_any (k : Int) false (decide_eq_false (by omega)) _) ?_)
              rintro e w13 ⟨rfl, hk⟩
              replace B_g1 := kp_blk B_g1 hk (fun h => h)
              replace B_g6 := kp_blk B_g6 hk (fun h => h)
              replace K_0 := K_0.then_ hk (fun _ h => h.elim)
              replace K_s5 := K_s5.then_ hk (fun _ h => h.elim)
              refine ⟨_, rfl, ?_⟩
              clear hE a; intro a hE
              refine p_cons (s_still p47_4_27 hE (wn_some g47_4_23 rfl rfl) rfl (st_not rfl rfl) ?_)
              clear hE a; intro a hE
              refine p_cons (s_still p47_4_28 hE (wn_some g47_4_18 rfl rfl) rfl (st_pick rfl rfl) ?_)
              clear hE a; intro a hE
              refine q0 p47_4_29 hE (st_pick rfl rfl) ?_
              clear hE a; intro a hE
              refine q0 p47_4_30 hE (st_assign rfl) ?_
              clear hE a; intro a hE
              refine p_nil ?_
              refine x_norm ?_
              refine c_cond (t := true) hE rfl ?_
              refine c_reg R47_5_l ?_
              refine q0 p47_5_0 hE (st_assign rfl) ?_
              clear hE a; intro a hE
              refine p_nil ?_
              refine x_norm ?_
              refine wp_ret ?_
              refine x_retB ?_
              refine x_ret ?_
              refine ret_one (v := Value.int .i64 3) rfl hE (.tmp rfl .nil) ?_
              have ec : chkO (k : Int) (sizesF k).length l f tn = chkF k (sizesF k).length l f tn := by unfold chkO; rw [if_pos ⟨by omega, by omega⟩]; rfl
              exact ⟨by rw [ec]; unfold chkF; rw [if_pos (Or.inr (Or.inr ⟨hTX, hK2⟩))], K_0⟩
          ·
            refine c_reg R47_4_l ?_
            refine q0 p47_4_0 hE (st_fieldAddr Try.underlying64 rfl tS62 rfl rfl) ?_
            clear hE a; intro a hE
            refine q0 p47_4_1 hE (st_load1 tA62 rfl ((blk_cell B_g1 1).trans rfl)) ?_
            clear hE a; intro a hE
            refine q0 p47_4_2 hE (st_len Try.underlying62 rfl) ?_
            clear hE a; intro a hE
            refine q0 p47_4_3 hE (st_fieldAddr Try.underlying157 rfl tS62 rfl rfl) ?_
            clear hE a; intro a hE
            refine q0 p47_4_4 hE (st_load1 tA62 rfl ((blk_cell B_g6 1).trans rfl)) ?_
            clear hE a; intro a hE
            refine q0 p47_4_5 hE (st_len Try.underlying62 rfl) ?_
            clear hE a; intro a hE
            refine q0 p47_4_6 hE (st_neq (b := false) rfl rfl (by simp)) ?_
            clear hE a; intro a hE
            refine q0 p47_4_7 hE (st_move rfl) ?_
            clear hE a; intro a hE
            refine p_cons (s_still p47_4_8 hE (wn_some g47_4_7 rfl rfl) rfl (st_fieldAddr Try.underlying64 rfl tS25 rfl rfl) ?_)
            clear hE a; intro a hE
            refine p_cons (s_still p47_4_9 hE (wn_some g47_4_7 rfl rfl) rfl (st_loadN (off := 2) (k := 16) (vs := b16 f) tA25 tS25 rfl B_g1 rfl rfl) ?_)
            clear hE a; intro a hE
            refine p_cons (s_still p47_4_10 hE (wn_some g47_4_7 rfl rfl) rfl (st_build (xs := []) (vs := []) (cs := (b16 (fun _ => 0)).toArray) rfl (by kernel_rfl)) ?_)
            clear hE a; intro a hE
            refine p_cons (s_still p47_4_11 hE (wn_some g47_4_7 rfl rfl) rfl (st_neqA (b := true) eg25 rfl rfl (eqA_flat eqZ_ks (by kernel_rfl) rfl rfl hAZ)) ?_)
            clear hE a; intro a hE
            refine p_cons (s_still p47_4_12 hE (wn_some g47_4_7 rfl rfl) rfl (st_move rfl) ?_)
            clear hE a; intro a hE
            refine p_cons (s_skip p47_4_13 hE (wn_some g47_4_12 rfl rfl) rfl ?_)
            clear hE a; intro a hE
            refine p_cons (s_skip p47_4_14 hE (wn_some g47_4_12 rfl rfl) rfl ?_)
            clear hE a; intro a hE
            refine p_cons (s_skip p47_4_15 hE (wn_some g47_4_12 rfl rfl) rfl ?_)
            clear hE a; intro a hE
            refine p_cons (s_still p47_4_16 hE (wn_some g47_4_7 rfl rfl) rfl (st_pick rfl rfl) ?_)
            clear hE a; intro a hE
            refine q0 p47_4_17 hE (st_pick rfl rfl) ?_
            clear hE a; intro a hE
            refine q0 p47_4_18 hE (st_move rfl) ?_
            clear hE a; intro a hE
            refine p_cons (s_still p47_4_19 hE (wn_some g47_4_18 rfl rfl) rfl (st_fieldAddr Try.underlying64 rfl tS36 rfl rfl) ?_)
            clear hE a; intro a hE
            refine p_cons (s_still p47_4_20 hE (wn_some g47_4_18 rfl rfl) rfl (st_load1 tA36 rfl ((blk_cell B_g1 18).trans rfl)) ?_)
            clear hE a; intro a hE
            refine p_cons (s_still p47_4_21 hE (wn_some g47_4_18 rfl rfl) rfl (st_len Try.underlying36 rfl) ?_)
            clear hE a; intro a hE
            refine p_cons (s_still p47_4_22 hE (wn_some g47_4_18 rfl rfl) rfl (st_gtr (b := false) rfl rfl (decide_eq_false (by omega))) ?_)
            clear hE a; intro a hE
            refine p_cons (s_still p47_4_23 hE (wn_some g47_4_18 rfl rfl) rfl (st_move rfl) ?_)
            clear hE a; intro a hE
            refine p_cons (s_skip p47_4_24 hE (wn_some g47_4_23 rfl rfl) rfl ?_)
            clear hE a; intro a hE
            refine p_cons (s_skip p47_4_25 hE (wn_some g47_4_23 rfl rfl) rfl ?_)
            clear hE a; intro a hE
            refine p_cons (s_skip p47_4_26 hE (wn_some g47_4_23 rfl rfl) rfl ?_)
            clear hE a; intro a hE
            refine p_cons (s_skip p47_4_27 hE (wn_some g47_4_23 rfl rfl) rfl ?_)
            clear hE a; intro a hE
            refine p_cons (s_still p47_4_28 hE (wn_some g47_4_18 rfl rfl) rfl (st_pick rfl rfl) ?_)
            clear hE a; intro a hE
            refine q0 p47_4_29 hE (st_pick rfl rfl) ?_
            clear hE a; intro a hE
            refine q0 p47_4_30 hE (st_assign rfl) ?_
            clear hE a; intro a hE
            refine p_nil ?_
            refine x_norm ?_
            refine c_cond (t := false) hE rfl ?_
            refine wp_skip ?_
            refine x_normB ?_
            refine x_norm ?_
            refine wp_seq ?_
            rcases Decidable.em (numB (sizesF k) (lenF k) (zeroF k) l = true) with hNB | hNB
            ·
              refine c_reg R47_6_l ?_
              refine q0 p47_6_0 hE (st_loadN (off := 0) (k := 6) (vs := [Value.string (wordF k), Value.slice A1 ((sizesF k).length) c1, Value.int .i64 (behindF k), Value.bool true, Value.int .i64 (lenF k), Value.int .i64 (zeroF k)]) tA157 tS157 rfl B_g6 rfl rfl) ?_
              clear hE a; intro a hE
              refine q0 p47_6_1 hE (st_fieldAddr Try.underlying64 rfl tS62 rfl rfl) ?_
              clear hE a; intro a hE
              refine q0 p47_6_2 hE (st_load1 tA62 rfl ((blk_cell B_g1 1).trans rfl)) ?_
              clear hE a; intro a hE
              refine p_cons (s_call (xs := [Operand.tmp 46, Operand.tmp 48]) (args := [Value.agg #[Value.string (wordF k), Value.slice A1 ((sizesF k).length) c1, Value.int .i64 (behindF k), Value.bool true, Value.int .i64 (lenF k), Value.int .i64 (zeroF k)], Value.slice B ((sizesF k).length) cb]) p47_6_3 hE wn_none rfl rfl Try.func96 cl96 (num_any (wordF k) A1 B c1 cb ((sizesF k).length) (behindF k) (lenF k) (zeroF k) true (sizesF k) l true hNB rfl (by have := sizes_len k; omega) _ (fun W' hk => F_1 W' (K_s5.then_ hk (fun _ h => h.elim))) (fun W' hk => F_B W' (K_0.then_ hk (fun _ h => h.elim)))) ?_)
              rintro e w14 ⟨rfl, hk⟩
              replace B_g1 := kp_blk B_g1 hk (fun h => h)
              replace B_g6 := kp_blk B_g6 hk (fun h => h)
              replace K_0 := K_0.then_ hk (fun _ h => h.elim)
              replace K_s5 := K_s5.then_ hk (fun _ h => h.elim)
              refine ⟨_, rfl, ?_⟩
              clear hE a; intro a hE
              refine q0 p47_6_4 hE (st_assign rfl) ?_
              clear hE a; intro a hE
              refine p_nil ?_
              refine x_norm ?_
              refine c_reg R47_7_l ?_
              refine q0 p47_7_0 hE (st_move rfl) ?_
              clear hE a; intro a hE
              refine q0 p47_7_1 hE (st_neq (b := false) rfl rfl (by decide)) ?_
              clear hE a; intro a hE
              refine p_nil ?_
              refine x_norm ?_
              refine c_cond (t := false) hE rfl ?_
              refine wp_skip ?_
              refine x_norm ?_
              refine wp_seq ?_
              rcases Decidable.em (64 < tn) with hT6 | hT6
              ·
                refine c_reg R47_9_l ?_
                refine q0 p47_9_0 hE (st_fieldAddr Try.underlying64 rfl tS36 rfl rfl) ?_
                clear hE a; intro a hE
                refine q0 p47_9_1 hE (st_load1 tA36 rfl ((blk_cell B_g1 18).trans rfl)) ?_
                clear hE a; intro a hE
                refine q0 p47_9_2 hE (st_len Try.underlying36 rfl) ?_
                clear hE a; intro a hE
                refine q0 p47_9_3 hE (st_gtr (b := true) rfl rfl (decide_eq_true (by omega))) ?_
                clear hE a; intro a hE
                refine p_nil ?_
                refine x_norm ?_
                refine c_cond (t := true) hE rfl ?_
                refine c_reg R47_10_l ?_
                refine q0 p47_10_0 hE (st_assign rfl) ?_
                clear hE a; intro a hE
                refine p_nil ?_
                refine x_norm ?_
                refine wp_ret ?_
                refine x_ret ?_
                refine ret_one (v := Value.int .i64 2) rfl hE (.tmp rfl .nil) ?_
                have ec : chkO (k : Int) (sizesF k).length l f tn = chkF k (sizesF k).length l f tn := by unfold chkO; rw [if_pos ⟨by omega, by omega⟩]; rfl
                exact ⟨by rw [ec]; unfold chkF; rw [if_neg (by intro h; rcases h with h | h | h; exact h rfl; exact h.1 hAZ; exact hTX h.1), if_neg (fun h => h hNB), if_pos hT6], K_0⟩
              ·
                refine c_reg R47_9_l ?_
                refine q0 p47_9_0 hE (st_fieldAddr Try.underlying64 rfl tS36 rfl rfl) ?_
                clear hE a; intro a hE
                refine q0 p47_9_1 hE (st_load1 tA36 rfl ((blk_cell B_g1 18).trans rfl)) ?_
                clear hE a; intro a hE
                refine q0 p47_9_2 hE (st_len Try.underlying36 rfl) ?_
                clear hE a; intro a hE
                refine q0 p47_9_3 hE (st_gtr (b := false) rfl rfl (decide_eq_false (by omega))) ?_
                clear hE a; intro a hE
                refine p_nil ?_
                refine x_norm ?_
                refine c_cond (t := false) hE rfl ?_
                refine wp_skip ?_
                refine x_norm ?_
                refine c_reg R47_11_l ?_
                refine q0 p47_11_0 hE (st_assign rfl) ?_
                clear hE a; intro a hE
                refine p_nil ?_
                refine x_norm ?_
                refine wp_ret ?_
                refine ret_one (v := Value.int .i64 0) rfl hE (.tmp rfl .nil) ?_
                have ec : chkO (k : Int) (sizesF k).length l f tn = chkF k (sizesF k).length l f tn := by unfold chkO; rw [if_pos ⟨by omega, by omega⟩]; rfl
                exact ⟨by rw [ec]; unfold chkF; rw [if_neg (by intro h; rcases h with h | h | h; exact h rfl; exact h.1 hAZ; exact hTX h.1), if_neg (fun h => h hNB), if_neg hT6], K_0⟩
            ·
              refine c_reg R47_6_l ?_
              refine q0 p47_6_0 hE (st_loadN (off := 0) (k := 6) (vs := [Value.string (wordF k), Value.slice A1 ((sizesF k).length) c1, Value.int .i64 (behindF k), Value.bool true, Value.int .i64 (lenF k), Value.int .i64 (zeroF k)]) tA157 tS157 rfl B_g6 rfl rfl) ?_
              clear hE a; intro a hE
              refine q0 p47_6_1 hE (st_fieldAddr Try.underlying64 rfl tS62 rfl rfl) ?_
              clear hE a; intro a hE
              refine q0 p47_6_2 hE (st_load1 tA62 rfl ((blk_cell B_g1 1).trans rfl)) ?_
              clear hE a; intro a hE
              refine p_cons (s_call (xs := [Operand.tmp 46, Operand.tmp 48]) (args := [Value.agg #[Value.string (wordF k), Value.slice A1 ((sizesF k).length) c1, Value.int .i64 (behindF k), Value.bool true, Value.int .i64 (lenF k), Value.int .i64 (zeroF k)], Value.slice B ((sizesF k).length) cb]) p47_6_3 hE wn_none rfl rfl Try.func96 cl96 (num_any (wordF k) A1 B c1 cb ((sizesF k).length) (behindF k) (lenF k) (zeroF k) true (sizesF k) l false (by simpa using hNB) rfl (by have := sizes_len k; omega) _ (fun W' hk => F_1 W' (K_s5.then_ hk (fun _ h => h.elim))) (fun W' hk => F_B W' (K_0.then_ hk (fun _ h => h.elim)))) ?_)
              rintro e w15 ⟨rfl, hk⟩
              replace B_g1 := kp_blk B_g1 hk (fun h => h)
              replace B_g6 := kp_blk B_g6 hk (fun h => h)
              replace K_0 := K_0.then_ hk (fun _ h => h.elim)
              replace K_s5 := K_s5.then_ hk (fun _ h => h.elim)
              refine ⟨_, rfl, ?_⟩
              clear hE a; intro a hE
              refine q0 p47_6_4 hE (st_assign rfl) ?_
              clear hE a; intro a hE
              refine p_nil ?_
              refine x_norm ?_
              refine c_reg R47_7_l ?_
              refine q0 p47_7_0 hE (st_move rfl) ?_
              clear hE a; intro a hE
              refine q0 p47_7_1 hE (st_neq (b := true) rfl rfl (by decide)) ?_
              clear hE a; intro a hE
              refine p_nil ?_
              refine x_norm ?_
              refine c_cond (t := true) hE rfl ?_
              refine c_reg R47_8_l ?_
              refine q0 p47_8_0 hE (st_move rfl) ?_
              clear hE a; intro a hE
              refine q0 p47_8_1 hE (st_assign rfl) ?_
              clear hE a; intro a hE
              refine p_nil ?_
              refine x_norm ?_
              refine wp_ret ?_
              refine x_ret ?_
              refine ret_one (v := Value.int .i64 1) rfl hE (.tmp rfl .nil) ?_
              have ec : chkO (k : Int) (sizesF k).length l f tn = chkF k (sizesF k).length l f tn := by unfold chkO; rw [if_pos ⟨by omega, by omega⟩]; rfl
              exact ⟨by rw [ec]; unfold chkF; rw [if_neg (by intro h; rcases h with h | h | h; exact h rfl; exact h.1 hAZ; exact hTX h.1), if_pos hNB], K_0⟩
        ·
          rcases Decidable.em (0 < tn) with hTX | hTX
          ·
            rcases Decidable.em (k = 2) with hK2 | hK2
            ·
              refine c_reg R47_4_l ?_
              refine q0 p47_4_0 hE (st_fieldAddr Try.underlying64 rfl tS62 rfl rfl) ?_
              clear hE a; intro a hE
              refine q0 p47_4_1 hE (st_load1 tA62 rfl ((blk_cell B_g1 1).trans rfl)) ?_
              clear hE a; intro a hE
              refine q0 p47_4_2 hE (st_len Try.underlying62 rfl) ?_
              clear hE a; intro a hE
              refine q0 p47_4_3 hE (st_fieldAddr Try.underlying157 rfl tS62 rfl rfl) ?_
              clear hE a; intro a hE
              refine q0 p47_4_4 hE (st_load1 tA62 rfl ((blk_cell B_g6 1).trans rfl)) ?_
              clear hE a; intro a hE
              refine q0 p47_4_5 hE (st_len Try.underlying62 rfl) ?_
              clear hE a; intro a hE
              refine q0 p47_4_6 hE (st_neq (b := false) rfl rfl (by simp)) ?_
              clear hE a; intro a hE
              refine q0 p47_4_7 hE (st_move rfl) ?_
              clear hE a; intro a hE
              refine p_cons (s_still p47_4_8 hE (wn_some g47_4_7 rfl rfl) rfl (st_fieldAddr Try.underlying64 rfl tS25 rfl rfl) ?_)
              clear hE a; intro a hE
              refine p_cons (s_still p47_4_9 hE (wn_some g47_4_7 rfl rfl) rfl (st_loadN (off := 2) (k := 16) (vs := b16 f) tA25 tS25 rfl B_g1 rfl rfl) ?_)
              clear hE a; intro a hE
              refine p_cons (s_still p47_4_10 hE (wn_some g47_4_7 rfl rfl) rfl (st_build (xs := []) (vs := []) (cs := (b16 (fun _ => 0)).toArray) rfl (by kernel_rfl)) ?_)
              clear hE a; intro a hE
              refine p_cons (s_still p47_4_11 hE (wn_some g47_4_7 rfl rfl) rfl (st_neqA (b := false) eg25 rfl rfl (eqA_flat eqZ_ks (by kernel_rfl) rfl rfl (by simpa using hAZ))) ?_)
              clear hE a; intro a hE
              refine p_cons (s_still p47_4_12 hE (wn_some g47_4_7 rfl rfl) rfl (st_move rfl) ?_)
              clear hE a; intro a hE
              refine p_cons (s_still p47_4_13 hE (wn_some g47_4_12 rfl rfl) rfl (st_fieldAddr Try.underlying157 rfl tS4 rfl rfl) ?_)
              clear hE a; intro a hE
              refine p_cons (s_still p47_4_14 hE (wn_some g47_4_12 rfl rfl) rfl (st_load1 tA4 rfl ((blk_cell B_g6 3).trans rfl)) ?_)
              clear hE a; intro a hE
              refine p_cons (s_still p47_4_15 hE (wn_some g47_4_12 rfl rfl) rfl (st_not rfl rfl) ?_)
              clear hE a; intro a hE
              refine p_cons (s_still p47_4_16 hE (wn_some g47_4_7 rfl rfl) rfl (st_pick rfl rfl) ?_)
              clear hE a; intro a hE
              refine q0 p47_4_17 hE (st_pick rfl rfl) ?_
              clear hE a; intro a hE
              refine q0 p47_4_18 hE (st_move rfl) ?_
              clear hE a; intro a hE
              refine p_cons (s_still p47_4_19 hE (wn_some g47_4_18 rfl rfl) rfl (st_fieldAddr Try.underlying64 rfl tS36 rfl rfl) ?_)
              clear hE a; intro a hE
              refine p_cons (s_still p47_4_20 hE (wn_some g47_4_18 rfl rfl) rfl (st_load1 tA36 rfl ((blk_cell B_g1 18).trans rfl)) ?_)
              clear hE a; intro a hE
              refine p_cons (s_still p47_4_21 hE (wn_some g47_4_18 rfl rfl) rfl (st_len Try.underlying36 rfl) ?_)
              clear hE a; intro a hE
              refine p_cons (s_still p47_4_22 hE (wn_some g47_4_18 rfl rfl) rfl (st_gtr (b := true) rfl rfl (decide_eq_true (by omega))) ?_)
              clear hE a; intro a hE
              refine p_cons (s_still p47_4_23 hE (wn_some g47_4_18 rfl rfl) rfl (st_move rfl) ?_)
              clear hE a; intro a hE
              refine p_cons (s_still p47_4_24 hE (wn_some g47_4_23 rfl rfl) rfl (st_fieldAddr Try.underlying64 rfl tS3 rfl rfl) ?_)
              clear hE a; intro a hE
              refine p_cons (s_still p47_4_25 hE (wn_some g47_4_23 rfl rfl) rfl (st_load1 tA3 rfl ((blk_cell B_g1 0).trans rfl)) ?_)
              clear hE a; intro a hE
              refine p_cons (s_call (xs := [Operand.tmp 41]) (args := [Value.int .i64 (k : Int)]) p47_4_26 hE (wn_some g47_4_23 rfl rfl) rfl rfl Try.func95 cl95 (texts_any (k : Int) true (decide_eq_true (by omega)) _) ?_)
              rintro e w16 ⟨rfl, hk⟩
              replace B_g1 := kp_blk B_g1 hk (fun h => h)
              replace B_g6 := kp_blk B_g6 hk (fun h => h)
              replace K_0 := K_0.then_ hk (fun _ h => h.elim)
              replace K_s5 := K_s5.then_ hk (fun _ h => h.elim)
              refine ⟨_, rfl, ?_⟩
              clear hE a; intro a hE
              refine p_cons (s_still p47_4_27 hE (wn_some g47_4_23 rfl rfl) rfl (st_not rfl rfl) ?_)
              clear hE a; intro a hE
              refine p_cons (s_still p47_4_28 hE (wn_some g47_4_18 rfl rfl) rfl (st_pick rfl rfl) ?_)
              clear hE a; intro a hE
              refine q0 p47_4_29 hE (st_pick rfl rfl) ?_
              clear hE a; intro a hE
              refine q0 p47_4_30 hE (st_assign rfl) ?_
              clear hE a; intro a hE
              refine p_nil ?_
              refine x_norm ?_
              refine c_cond (t := false) hE rfl ?_
              refine wp_skip ?_
              refine x_normB ?_
              refine x_norm ?_
              refine wp_seq ?_
              rcases Decidable.em (numB (sizesF k) (lenF k) (zeroF k) l = true) with hNB | hNB
              ·
                refine c_reg R47_6_l ?_
                refine q0 p47_6_0 hE (st_loadN (off := 0) (k := 6) (vs := [Value.string (wordF k), Value.slice A1 ((sizesF k).length) c1, Value.int .i64 (behindF k), Value.bool true, Value.int .i64 (lenF k), Value.int .i64 (zeroF k)]) tA157 tS157 rfl B_g6 rfl rfl) ?_
                clear hE a; intro a hE
                refine q0 p47_6_1 hE (st_fieldAddr Try.underlying64 rfl tS62 rfl rfl) ?_
                clear hE a; intro a hE
                refine q0 p47_6_2 hE (st_load1 tA62 rfl ((blk_cell B_g1 1).trans rfl)) ?_
                clear hE a; intro a hE
                refine p_cons (s_call (xs := [Operand.tmp 46, Operand.tmp 48]) (args := [Value.agg #[Value.string (wordF k), Value.slice A1 ((sizesF k).length) c1, Value.int .i64 (behindF k), Value.bool true, Value.int .i64 (lenF k), Value.int .i64 (zeroF k)], Value.slice B ((sizesF k).length) cb]) p47_6_3 hE wn_none rfl rfl Try.func96 cl96 (num_any (wordF k) A1 B c1 cb ((sizesF k).length) (behindF k) (lenF k) (zeroF k) true (sizesF k) l true hNB rfl (by have := sizes_len k; omega) _ (fun W' hk => F_1 W' (K_s5.then_ hk (fun _ h => h.elim))) (fun W' hk => F_B W' (K_0.then_ hk (fun _ h => h.elim)))) ?_)
                rintro e w17 ⟨rfl, hk⟩
                replace B_g1 := kp_blk B_g1 hk (fun h => h)
                replace B_g6 := kp_blk B_g6 hk (fun h => h)
                replace K_0 := K_0.then_ hk (fun _ h => h.elim)
                replace K_s5 := K_s5.then_ hk (fun _ h => h.elim)
                refine ⟨_, rfl, ?_⟩
                clear hE a; intro a hE
                refine q0 p47_6_4 hE (st_assign rfl) ?_
                clear hE a; intro a hE
                refine p_nil ?_
                refine x_norm ?_
                refine c_reg R47_7_l ?_
                refine q0 p47_7_0 hE (st_move rfl) ?_
                clear hE a; intro a hE
                refine q0 p47_7_1 hE (st_neq (b := false) rfl rfl (by decide)) ?_
                clear hE a; intro a hE
                refine p_nil ?_
                refine x_norm ?_
                refine c_cond (t := false) hE rfl ?_
                refine wp_skip ?_
                refine x_norm ?_
                refine wp_seq ?_
                rcases Decidable.em (64 < tn) with hT6 | hT6
                ·
                  refine c_reg R47_9_l ?_
                  refine q0 p47_9_0 hE (st_fieldAddr Try.underlying64 rfl tS36 rfl rfl) ?_
                  clear hE a; intro a hE
                  refine q0 p47_9_1 hE (st_load1 tA36 rfl ((blk_cell B_g1 18).trans rfl)) ?_
                  clear hE a; intro a hE
                  refine q0 p47_9_2 hE (st_len Try.underlying36 rfl) ?_
                  clear hE a; intro a hE
                  refine q0 p47_9_3 hE (st_gtr (b := true) rfl rfl (decide_eq_true (by omega))) ?_
                  clear hE a; intro a hE
                  refine p_nil ?_
                  refine x_norm ?_
                  refine c_cond (t := true) hE rfl ?_
                  refine c_reg R47_10_l ?_
                  refine q0 p47_10_0 hE (st_assign rfl) ?_
                  clear hE a; intro a hE
                  refine p_nil ?_
                  refine x_norm ?_
                  refine wp_ret ?_
                  refine x_ret ?_
                  refine ret_one (v := Value.int .i64 2) rfl hE (.tmp rfl .nil) ?_
                  have ec : chkO (k : Int) (sizesF k).length l f tn = chkF k (sizesF k).length l f tn := by unfold chkO; rw [if_pos ⟨by omega, by omega⟩]; rfl
                  exact ⟨by rw [ec]; unfold chkF; rw [if_neg (by intro h; rcases h with h | h | h; exact h rfl; exact h.2 hAD; exact h.2 hK2), if_neg (fun h => h hNB), if_pos hT6], K_0⟩
                ·
                  refine c_reg R47_9_l ?_
                  refine q0 p47_9_0 hE (st_fieldAddr Try.underlying64 rfl tS36 rfl rfl) ?_
                  clear hE a; intro a hE
                  refine q0 p47_9_1 hE (st_load1 tA36 rfl ((blk_cell B_g1 18).trans rfl)) ?_
                  clear hE a; intro a hE
                  refine q0 p47_9_2 hE (st_len Try.underlying36 rfl) ?_
                  clear hE a; intro a hE
                  refine q0 p47_9_3 hE (st_gtr (b := false) rfl rfl (decide_eq_false (by omega))) ?_
                  clear hE a; intro a hE
                  refine p_nil ?_
                  refine x_norm ?_
                  refine c_cond (t := false) hE rfl ?_
                  refine wp_skip ?_
                  refine x_norm ?_
                  refine c_reg R47_11_l ?_
                  refine q0 p47_11_0 hE (st_assign rfl) ?_
                  clear hE a; intro a hE
                  refine p_nil ?_
                  refine x_norm ?_
                  refine wp_ret ?_
                  refine ret_one (v := Value.int .i64 0) rfl hE (.tmp rfl .nil) ?_
                  have ec : chkO (k : Int) (sizesF k).length l f tn = chkF k (sizesF k).length l f tn := by unfold chkO; rw [if_pos ⟨by omega, by omega⟩]; rfl
                  exact ⟨by rw [ec]; unfold chkF; rw [if_neg (by intro h; rcases h with h | h | h; exact h rfl; exact h.2 hAD; exact h.2 hK2), if_neg (fun h => h hNB), if_neg hT6], K_0⟩
              ·
                refine c_reg R47_6_l ?_
                refine q0 p47_6_0 hE (st_loadN (off := 0) (k := 6) (vs := [Value.string (wordF k), Value.slice A1 ((sizesF k).length) c1, Value.int .i64 (behindF k), Value.bool true, Value.int .i64 (lenF k), Value.int .i64 (zeroF k)]) tA157 tS157 rfl B_g6 rfl rfl) ?_
                clear hE a; intro a hE
                refine q0 p47_6_1 hE (st_fieldAddr Try.underlying64 rfl tS62 rfl rfl) ?_
                clear hE a; intro a hE
                refine q0 p47_6_2 hE (st_load1 tA62 rfl ((blk_cell B_g1 1).trans rfl)) ?_
                clear hE a; intro a hE
                refine p_cons (s_call (xs := [Operand.tmp 46, Operand.tmp 48]) (args := [Value.agg #[Value.string (wordF k), Value.slice A1 ((sizesF k).length) c1, Value.int .i64 (behindF k), Value.bool true, Value.int .i64 (lenF k), Value.int .i64 (zeroF k)], Value.slice B ((sizesF k).length) cb]) p47_6_3 hE wn_none rfl rfl Try.func96 cl96 (num_any (wordF k) A1 B c1 cb ((sizesF k).length) (behindF k) (lenF k) (zeroF k) true (sizesF k) l false (by simpa using hNB) rfl (by have := sizes_len k; omega) _ (fun W' hk => F_1 W' (K_s5.then_ hk (fun _ h => h.elim))) (fun W' hk => F_B W' (K_0.then_ hk (fun _ h => h.elim)))) ?_)
                rintro e w18 ⟨rfl, hk⟩
                replace B_g1 := kp_blk B_g1 hk (fun h => h)
                replace B_g6 := kp_blk B_g6 hk (fun h => h)
                replace K_0 := K_0.then_ hk (fun _ h => h.elim)
                replace K_s5 := K_s5.then_ hk (fun _ h => h.elim)
                refine ⟨_, rfl, ?_⟩
                clear hE a; intro a hE
                refine q0 p47_6_4 hE (st_assign rfl) ?_
                clear hE a; intro a hE
                refine p_nil ?_
                refine x_norm ?_
                refine c_reg R47_7_l ?_
                refine q0 p47_7_0 hE (st_move rfl) ?_
                clear hE a; intro a hE
                refine q0 p47_7_1 hE (st_neq (b := true) rfl rfl (by decide)) ?_
                clear hE a; intro a hE
                refine p_nil ?_
                refine x_norm ?_
                refine c_cond (t := true) hE rfl ?_
                refine c_reg R47_8_l ?_
                refine q0 p47_8_0 hE (st_move rfl) ?_
                clear hE a; intro a hE
                refine q0 p47_8_1 hE (st_assign rfl) ?_
                clear hE a; intro a hE
                refine p_nil ?_
                refine x_norm ?_
                refine wp_ret ?_
                refine x_ret ?_
                refine ret_one (v := Value.int .i64 1) rfl hE (.tmp rfl .nil) ?_
                have ec : chkO (k : Int) (sizesF k).length l f tn = chkF k (sizesF k).length l f tn := by unfold chkO; rw [if_pos ⟨by omega, by omega⟩]; rfl
                exact ⟨by rw [ec]; unfold chkF; rw [if_neg (by intro h; rcases h with h | h | h; exact h rfl; exact h.2 hAD; exact h.2 hK2), if_pos hNB], K_0⟩
            ·
              refine c_reg R47_4_l ?_
              refine q0 p47_4_0 hE (st_fieldAddr Try.underlying64 rfl tS62 rfl rfl) ?_
              clear hE a; intro a hE
              refine q0 p47_4_1 hE (st_load1 tA62 rfl ((blk_cell B_g1 1).trans rfl)) ?_
              clear hE a; intro a hE
              refine q0 p47_4_2 hE (st_len Try.underlying62 rfl) ?_
              clear hE a; intro a hE
              refine q0 p47_4_3 hE (st_fieldAddr Try.underlying157 rfl tS62 rfl rfl) ?_
              clear hE a; intro a hE
              refine q0 p47_4_4 hE (st_load1 tA62 rfl ((blk_cell B_g6 1).trans rfl)) ?_
              clear hE a; intro a hE
              refine q0 p47_4_5 hE (st_len Try.underlying62 rfl) ?_
              clear hE a; intro a hE
              refine q0 p47_4_6 hE (st_neq (b := false) rfl rfl (by simp)) ?_
              clear hE a; intro a hE
              refine q0 p47_4_7 hE (st_move rfl) ?_
              clear hE a; intro a hE
              refine p_cons (s_still p47_4_8 hE (wn_some g47_4_7 rfl rfl) rfl (st_fieldAddr Try.underlying64 rfl tS25 rfl rfl) ?_)
              clear hE a; intro a hE
              refine p_cons (s_still p47_4_9 hE (wn_some g47_4_7 rfl rfl) rfl (st_loadN (off := 2) (k := 16) (vs := b16 f) tA25 tS25 rfl B_g1 rfl rfl) ?_)
              clear hE a; intro a hE
              refine p_cons (s_still p47_4_10 hE (wn_some g47_4_7 rfl rfl) rfl (st_build (xs := []) (vs := []) (cs := (b16 (fun _ => 0)).toArray) rfl (by kernel_rfl)) ?_)
              clear hE a; intro a hE
              refine p_cons (s_still p47_4_11 hE (wn_some g47_4_7 rfl rfl) rfl (st_neqA (b := false) eg25 rfl rfl (eqA_flat eqZ_ks (by kernel_rfl) rfl rfl (by simpa using hAZ))) ?_)
              clear hE a; intro a hE
              refine p_cons (s_still p47_4_12 hE (wn_some g47_4_7 rfl rfl) rfl (st_move rfl) ?_)
              clear hE a; intro a hE
              refine p_cons (s_still p47_4_13 hE (wn_some g47_4_12 rfl rfl) rfl (st_fieldAddr Try.underlying157 rfl tS4 rfl rfl) ?_)
              clear hE a; intro a hE
              refine p_cons (s_still p47_4_14 hE (wn_some g47_4_12 rfl rfl) rfl (st_load1 tA4 rfl ((blk_cell B_g6 3).trans rfl)) ?_)
              clear hE a; intro a hE
              refine p_cons (s_still p47_4_15 hE (wn_some g47_4_12 rfl rfl) rfl (st_not rfl rfl) ?_)
              clear hE a; intro a hE
              refine p_cons (s_still p47_4_16 hE (wn_some g47_4_7 rfl rfl) rfl (st_pick rfl rfl) ?_)
              clear hE a; intro a hE
              refine q0 p47_4_17 hE (st_pick rfl rfl) ?_
              clear hE a; intro a hE
              refine q0 p47_4_18 hE (st_move rfl) ?_
              clear hE a; intro a hE
              refine p_cons (s_still p47_4_19 hE (wn_some g47_4_18 rfl rfl) rfl (st_fieldAddr Try.underlying64 rfl tS36 rfl rfl) ?_)
              clear hE a; intro a hE
              refine p_cons (s_still p47_4_20 hE (wn_some g47_4_18 rfl rfl) rfl (st_load1 tA36 rfl ((blk_cell B_g1 18).trans rfl)) ?_)
              clear hE a; intro a hE
              refine p_cons (s_still p47_4_21 hE (wn_some g47_4_18 rfl rfl) rfl (st_len Try.underlying36 rfl) ?_)
              clear hE a; intro a hE
              refine p_cons (s_still p47_4_22 hE (wn_some g47_4_18 rfl rfl) rfl (st_gtr (b := true) rfl rfl (decide_eq_true (by omega))) ?_)
              clear hE a; intro a hE
              refine p_cons (s_still p47_4_23 hE (wn_some g47_4_18 rfl rfl) rfl (st_move rfl) ?_)
              clear hE a; intro a hE
              refine p_cons (s_still p47_4_24 hE (wn_some g47_4_23 rfl rfl) rfl (st_fieldAddr Try.underlying64 rfl tS3 rfl rfl) ?_)
              clear hE a; intro a hE
              refine p_cons (s_still p47_4_25 hE (wn_some g47_4_23 rfl rfl) rfl (st_load1 tA3 rfl ((blk_cell B_g1 0).trans rfl)) ?_)
              clear hE a; intro a hE
              refine p_cons (s_call (xs := [Operand.tmp 41]) (args := [Value.int .i64 (k : Int)]) p47_4_26 hE (wn_some g47_4_23 rfl rfl) rfl rfl Try.func95 cl95 (texts_any (k : Int) false (decide_eq_false (by omega)) _) ?_)
              rintro e w19 ⟨rfl, hk⟩
              replace B_g1 := kp_blk B_g1 hk (fun h => h)
              replace B_g6 := kp_blk B_g6 hk (fun h => h)
              replace K_0 := K_0.then_ hk (fun _ h => h.elim)
              replace K_s5 := K_s5.then_ hk (fun _ h => h.elim)
              refine ⟨_, rfl, ?_⟩
              clear hE a; intro a hE
              refine p_cons (s_still p47_4_27 hE (wn_some g47_4_23 rfl rfl) rfl (st_not rfl rfl) ?_)
              clear hE a; intro a hE
              refine p_cons (s_still p47_4_28 hE (wn_some g47_4_18 rfl rfl) rfl (st_pick rfl rfl) ?_)
              clear hE a; intro a hE
              refine q0 p47_4_29 hE (st_pick rfl rfl) ?_
              clear hE a; intro a hE
              refine q0 p47_4_30 hE (st_assign rfl) ?_
              clear hE a; intro a hE
              refine p_nil ?_
              refine x_norm ?_
              refine c_cond (t := true) hE rfl ?_
              refine c_reg R47_5_l ?_
              refine q0 p47_5_0 hE (st_assign rfl) ?_
              clear hE a; intro a hE
              refine p_nil ?_
              refine x_norm ?_
              refine wp_ret ?_
              refine x_retB ?_
              refine x_ret ?_
              refine ret_one (v := Value.int .i64 3) rfl hE (.tmp rfl .nil) ?_
              have ec : chkO (k : Int) (sizesF k).length l f tn = chkF k (sizesF k).length l f tn := by unfold chkO; rw [if_pos ⟨by omega, by omega⟩]; rfl
              exact ⟨by rw [ec]; unfold chkF; rw [if_pos (Or.inr (Or.inr ⟨hTX, hK2⟩))], K_0⟩
          ·
            refine c_reg R47_4_l ?_
            refine q0 p47_4_0 hE (st_fieldAddr Try.underlying64 rfl tS62 rfl rfl) ?_
            clear hE a; intro a hE
            refine q0 p47_4_1 hE (st_load1 tA62 rfl ((blk_cell B_g1 1).trans rfl)) ?_
            clear hE a; intro a hE
            refine q0 p47_4_2 hE (st_len Try.underlying62 rfl) ?_
            clear hE a; intro a hE
            refine q0 p47_4_3 hE (st_fieldAddr Try.underlying157 rfl tS62 rfl rfl) ?_
            clear hE a; intro a hE
            refine q0 p47_4_4 hE (st_load1 tA62 rfl ((blk_cell B_g6 1).trans rfl)) ?_
            clear hE a; intro a hE
            refine q0 p47_4_5 hE (st_len Try.underlying62 rfl) ?_
            clear hE a; intro a hE
            refine q0 p47_4_6 hE (st_neq (b := false) rfl rfl (by simp)) ?_
            clear hE a; intro a hE
            refine q0 p47_4_7 hE (st_move rfl) ?_
            clear hE a; intro a hE
            refine p_cons (s_still p47_4_8 hE (wn_some g47_4_7 rfl rfl) rfl (st_fieldAddr Try.underlying64 rfl tS25 rfl rfl) ?_)
            clear hE a; intro a hE
            refine p_cons (s_still p47_4_9 hE (wn_some g47_4_7 rfl rfl) rfl (st_loadN (off := 2) (k := 16) (vs := b16 f) tA25 tS25 rfl B_g1 rfl rfl) ?_)
            clear hE a; intro a hE
            refine p_cons (s_still p47_4_10 hE (wn_some g47_4_7 rfl rfl) rfl (st_build (xs := []) (vs := []) (cs := (b16 (fun _ => 0)).toArray) rfl (by kernel_rfl)) ?_)
            clear hE a; intro a hE
            refine p_cons (s_still p47_4_11 hE (wn_some g47_4_7 rfl rfl) rfl (st_neqA (b := false) eg25 rfl rfl (eqA_flat eqZ_ks (by kernel_rfl) rfl rfl (by simpa using hAZ))) ?_)
            clear hE a; intro a hE
            refine p_cons (s_still p47_4_12 hE (wn_some g47_4_7 rfl rfl) rfl (st_move rfl) ?_)
            clear hE a; intro a hE
            refine p_cons (s_still p47_4_13 hE (wn_some g47_4_12 rfl rfl) rfl (st_fieldAddr Try.underlying157 rfl tS4 rfl rfl) ?_)
            clear hE a; intro a hE
            refine p_cons (s_still p47_4_14 hE (wn_some g47_4_12 rfl rfl) rfl (st_load1 tA4 rfl ((blk_cell B_g6 3).trans rfl)) ?_)
            clear hE a; intro a hE
            refine p_cons (s_still p47_4_15 hE (wn_some g47_4_12 rfl rfl) rfl (st_not rfl rfl) ?_)
            clear hE a; intro a hE
            refine p_cons (s_still p47_4_16 hE (wn_some g47_4_7 rfl rfl) rfl (st_pick rfl rfl) ?_)
            clear hE a; intro a hE
            refine q0 p47_4_17 hE (st_pick rfl rfl) ?_
            clear hE a; intro a hE
            refine q0 p47_4_18 hE (st_move rfl) ?_
            clear hE a; intro a hE
            refine p_cons (s_still p47_4_19 hE (wn_some g47_4_18 rfl rfl) rfl (st_fieldAddr Try.underlying64 rfl tS36 rfl rfl) ?_)
            clear hE a; intro a hE
            refine p_cons (s_still p47_4_20 hE (wn_some g47_4_18 rfl rfl) rfl (st_load1 tA36 rfl ((blk_cell B_g1 18).trans rfl)) ?_)
            clear hE a; intro a hE
            refine p_cons (s_still p47_4_21 hE (wn_some g47_4_18 rfl rfl) rfl (st_len Try.underlying36 rfl) ?_)
            clear hE a; intro a hE
            refine p_cons (s_still p47_4_22 hE (wn_some g47_4_18 rfl rfl) rfl (st_gtr (b := false) rfl rfl (decide_eq_false (by omega))) ?_)
            clear hE a; intro a hE
            refine p_cons (s_still p47_4_23 hE (wn_some g47_4_18 rfl rfl) rfl (st_move rfl) ?_)
            clear hE a; intro a hE
            refine p_cons (s_skip p47_4_24 hE (wn_some g47_4_23 rfl rfl) rfl ?_)
            clear hE a; intro a hE
            refine p_cons (s_skip p47_4_25 hE (wn_some g47_4_23 rfl rfl) rfl ?_)
            clear hE a; intro a hE
            refine p_cons (s_skip p47_4_26 hE (wn_some g47_4_23 rfl rfl) rfl ?_)
            clear hE a; intro a hE
            refine p_cons (s_skip p47_4_27 hE (wn_some g47_4_23 rfl rfl) rfl ?_)
            clear hE a; intro a hE
            refine p_cons (s_still p47_4_28 hE (wn_some g47_4_18 rfl rfl) rfl (st_pick rfl rfl) ?_)
            clear hE a; intro a hE
            refine q0 p47_4_29 hE (st_pick rfl rfl) ?_
            clear hE a; intro a hE
            refine q0 p47_4_30 hE (st_assign rfl) ?_
            clear hE a; intro a hE
            refine p_nil ?_
            refine x_norm ?_
            refine c_cond (t := false) hE rfl ?_
            refine wp_skip ?_
            refine x_normB ?_
            refine x_norm ?_
            refine wp_seq ?_
            rcases Decidable.em (numB (sizesF k) (lenF k) (zeroF k) l = true) with hNB | hNB
            ·
              refine c_reg R47_6_l ?_
              refine q0 p47_6_0 hE (st_loadN (off := 0) (k := 6) (vs := [Value.string (wordF k), Value.slice A1 ((sizesF k).length) c1, Value.int .i64 (behindF k), Value.bool true, Value.int .i64 (lenF k), Value.int .i64 (zeroF k)]) tA157 tS157 rfl B_g6 rfl rfl) ?_
              clear hE a; intro a hE
              refine q0 p47_6_1 hE (st_fieldAddr Try.underlying64 rfl tS62 rfl rfl) ?_
              clear hE a; intro a hE
              refine q0 p47_6_2 hE (st_load1 tA62 rfl ((blk_cell B_g1 1).trans rfl)) ?_
              clear hE a; intro a hE
              refine p_cons (s_call (xs := [Operand.tmp 46, Operand.tmp 48]) (args := [Value.agg #[Value.string (wordF k), Value.slice A1 ((sizesF k).length) c1, Value.int .i64 (behindF k), Value.bool true, Value.int .i64 (lenF k), Value.int .i64 (zeroF k)], Value.slice B ((sizesF k).length) cb]) p47_6_3 hE wn_none rfl rfl Try.func96 cl96 (num_any (wordF k) A1 B c1 cb ((sizesF k).length) (behindF k) (lenF k) (zeroF k) true (sizesF k) l true hNB rfl (by have := sizes_len k; omega) _ (fun W' hk => F_1 W' (K_s5.then_ hk (fun _ h => h.elim))) (fun W' hk => F_B W' (K_0.then_ hk (fun _ h => h.elim)))) ?_)
              rintro e w20 ⟨rfl, hk⟩
              replace B_g1 := kp_blk B_g1 hk (fun h => h)
              replace B_g6 := kp_blk B_g6 hk (fun h => h)
              replace K_0 := K_0.then_ hk (fun _ h => h.elim)
              replace K_s5 := K_s5.then_ hk (fun _ h => h.elim)
              refine ⟨_, rfl, ?_⟩
              clear hE a; intro a hE
              refine q0 p47_6_4 hE (st_assign rfl) ?_
              clear hE a; intro a hE
              refine p_nil ?_
              refine x_norm ?_
              refine c_reg R47_7_l ?_
              refine q0 p47_7_0 hE (st_move rfl) ?_
              clear hE a; intro a hE
              refine q0 p47_7_1 hE (st_neq (b := false) rfl rfl (by decide)) ?_
              clear hE a; intro a hE
              refine p_nil ?_
              refine x_norm ?_
              refine c_cond (t := false) hE rfl ?_
              refine wp_skip ?_
              refine x_norm ?_
              refine wp_seq ?_
              rcases Decidable.em (64 < tn) with hT6 | hT6
              ·
                refine c_reg R47_9_l ?_
                refine q0 p47_9_0 hE (st_fieldAddr Try.underlying64 rfl tS36 rfl rfl) ?_
                clear hE a; intro a hE
                refine q0 p47_9_1 hE (st_load1 tA36 rfl ((blk_cell B_g1 18).trans rfl)) ?_
                clear hE a; intro a hE
                refine q0 p47_9_2 hE (st_len Try.underlying36 rfl) ?_
                clear hE a; intro a hE
                refine q0 p47_9_3 hE (st_gtr (b := true) rfl rfl (decide_eq_true (by omega))) ?_
                clear hE a; intro a hE
                refine p_nil ?_
                refine x_norm ?_
                refine c_cond (t := true) hE rfl ?_
                refine c_reg R47_10_l ?_
                refine q0 p47_10_0 hE (st_assign rfl) ?_
                clear hE a; intro a hE
                refine p_nil ?_
                refine x_norm ?_
                refine wp_ret ?_
                refine x_ret ?_
                refine ret_one (v := Value.int .i64 2) rfl hE (.tmp rfl .nil) ?_
                have ec : chkO (k : Int) (sizesF k).length l f tn = chkF k (sizesF k).length l f tn := by unfold chkO; rw [if_pos ⟨by omega, by omega⟩]; rfl
                exact ⟨by rw [ec]; unfold chkF; rw [if_neg (by intro h; rcases h with h | h | h; exact h rfl; exact h.2 hAD; exact hTX h.1), if_neg (fun h => h hNB), if_pos hT6], K_0⟩
              ·
                refine c_reg R47_9_l ?_
                refine q0 p47_9_0 hE (st_fieldAddr Try.underlying64 rfl tS36 rfl rfl) ?_
                clear hE a; intro a hE
                refine q0 p47_9_1 hE (st_load1 tA36 rfl ((blk_cell B_g1 18).trans rfl)) ?_
                clear hE a; intro a hE
                refine q0 p47_9_2 hE (st_len Try.underlying36 rfl) ?_
                clear hE a; intro a hE
                refine q0 p47_9_3 hE (st_gtr (b := false) rfl rfl (decide_eq_false (by omega))) ?_
                clear hE a; intro a hE
                refine p_nil ?_
                refine x_norm ?_
                refine c_cond (t := false) hE rfl ?_
                refine wp_skip ?_
                refine x_norm ?_
                refine c_reg R47_11_l ?_
                refine q0 p47_11_0 hE (st_assign rfl) ?_
                clear hE a; intro a hE
                refine p_nil ?_
                refine x_norm ?_
                refine wp_ret ?_
                refine ret_one (v := Value.int .i64 0) rfl hE (.tmp rfl .nil) ?_
                have ec : chkO (k : Int) (sizesF k).length l f tn = chkF k (sizesF k).length l f tn := by unfold chkO; rw [if_pos ⟨by omega, by omega⟩]; rfl
                exact ⟨by rw [ec]; unfold chkF; rw [if_neg (by intro h; rcases h with h | h | h; exact h rfl; exact h.2 hAD; exact hTX h.1), if_neg (fun h => h hNB), if_neg hT6], K_0⟩
            ·
              refine c_reg R47_6_l ?_
              refine q0 p47_6_0 hE (st_loadN (off := 0) (k := 6) (vs := [Value.string (wordF k), Value.slice A1 ((sizesF k).length) c1, Value.int .i64 (behindF k), Value.bool true, Value.int .i64 (lenF k), Value.int .i64 (zeroF k)]) tA157 tS157 rfl B_g6 rfl rfl) ?_
              clear hE a; intro a hE
              refine q0 p47_6_1 hE (st_fieldAddr Try.underlying64 rfl tS62 rfl rfl) ?_
              clear hE a; intro a hE
              refine q0 p47_6_2 hE (st_load1 tA62 rfl ((blk_cell B_g1 1).trans rfl)) ?_
              clear hE a; intro a hE
              refine p_cons (s_call (xs := [Operand.tmp 46, Operand.tmp 48]) (args := [Value.agg #[Value.string (wordF k), Value.slice A1 ((sizesF k).length) c1, Value.int .i64 (behindF k), Value.bool true, Value.int .i64 (lenF k), Value.int .i64 (zeroF k)], Value.slice B ((sizesF k).length) cb]) p47_6_3 hE wn_none rfl rfl Try.func96 cl96 (num_any (wordF k) A1 B c1 cb ((sizesF k).length) (behindF k) (lenF k) (zeroF k) true (sizesF k) l false (by simpa using hNB) rfl (by have := sizes_len k; omega) _ (fun W' hk => F_1 W' (K_s5.then_ hk (fun _ h => h.elim))) (fun W' hk => F_B W' (K_0.then_ hk (fun _ h => h.elim)))) ?_)
              rintro e w21 ⟨rfl, hk⟩
              replace B_g1 := kp_blk B_g1 hk (fun h => h)
              replace B_g6 := kp_blk B_g6 hk (fun h => h)
              replace K_0 := K_0.then_ hk (fun _ h => h.elim)
              replace K_s5 := K_s5.then_ hk (fun _ h => h.elim)
              refine ⟨_, rfl, ?_⟩
              clear hE a; intro a hE
              refine q0 p47_6_4 hE (st_assign rfl) ?_
              clear hE a; intro a hE
              refine p_nil ?_
              refine x_norm ?_
              refine c_reg R47_7_l ?_
              refine q0 p47_7_0 hE (st_move rfl) ?_
              clear hE a; intro a hE
              refine q0 p47_7_1 hE (st_neq (b := true) rfl rfl (by decide)) ?_
              clear hE a; intro a hE
              refine p_nil ?_
              refine x_norm ?_
              refine c_cond (t := true) hE rfl ?_
              refine c_reg R47_8_l ?_
              refine q0 p47_8_0 hE (st_move rfl) ?_
              clear hE a; intro a hE
              refine q0 p47_8_1 hE (st_assign rfl) ?_
              clear hE a; intro a hE
              refine p_nil ?_
              refine x_norm ?_
              refine wp_ret ?_
              refine x_ret ?_
              refine ret_one (v := Value.int .i64 1) rfl hE (.tmp rfl .nil) ?_
              have ec : chkO (k : Int) (sizesF k).length l f tn = chkF k (sizesF k).length l f tn := by unfold chkO; rw [if_pos ⟨by omega, by omega⟩]; rfl
              exact ⟨by rw [ec]; unfold chkF; rw [if_neg (by intro h; rcases h with h | h | h; exact h rfl; exact h.2 hAD; exact hTX h.1), if_pos hNB], K_0⟩
      ·
        refine c_reg R47_4_l ?_
        refine q0 p47_4_0 hE (st_fieldAddr Try.underlying64 rfl tS62 rfl rfl) ?_
        clear hE a; intro a hE
        refine q0 p47_4_1 hE (st_load1 tA62 rfl ((blk_cell B_g1 1).trans rfl)) ?_
        clear hE a; intro a hE
        refine q0 p47_4_2 hE (st_len Try.underlying62 rfl) ?_
        clear hE a; intro a hE
        refine q0 p47_4_3 hE (st_fieldAddr Try.underlying157 rfl tS62 rfl rfl) ?_
        clear hE a; intro a hE
        refine q0 p47_4_4 hE (st_load1 tA62 rfl ((blk_cell B_g6 1).trans rfl)) ?_
        clear hE a; intro a hE
        refine q0 p47_4_5 hE (st_len Try.underlying62 rfl) ?_
        clear hE a; intro a hE
        refine q0 p47_4_6 hE (st_neq (b := true) rfl rfl (by simp; omega)) ?_
        clear hE a; intro a hE
        refine q0 p47_4_7 hE (st_move rfl) ?_
        clear hE a; intro a hE
        refine p_cons (s_skip p47_4_8 hE (wn_some g47_4_7 rfl rfl) rfl ?_)
        clear hE a; intro a hE
        refine p_cons (s_skip p47_4_9 hE (wn_some g47_4_7 rfl rfl) rfl ?_)
        clear hE a; intro a hE
        refine p_cons (s_skip p47_4_10 hE (wn_some g47_4_7 rfl rfl) rfl ?_)
        clear hE a; intro a hE
        refine p_cons (s_skip p47_4_11 hE (wn_some g47_4_7 rfl rfl) rfl ?_)
        clear hE a; intro a hE
        refine p_cons (s_skip p47_4_12 hE (wn_some g47_4_7 rfl rfl) rfl ?_)
        clear hE a; intro a hE
        refine p_cons (s_skip p47_4_13 hE (wn_undef g47_4_12 rfl) rfl ?_)
        clear hE a; intro a hE
        refine p_cons (s_skip p47_4_14 hE (wn_undef g47_4_12 rfl) rfl ?_)
        clear hE a; intro a hE
        refine p_cons (s_skip p47_4_15 hE (wn_undef g47_4_12 rfl) rfl ?_)
        clear hE a; intro a hE
        refine p_cons (s_skip p47_4_16 hE (wn_some g47_4_7 rfl rfl) rfl ?_)
        clear hE a; intro a hE
        refine q0 p47_4_17 hE (st_pick rfl rfl) ?_
        clear hE a; intro a hE
        refine q0 p47_4_18 hE (st_move rfl) ?_
        clear hE a; intro a hE
        refine p_cons (s_skip p47_4_19 hE (wn_some g47_4_18 rfl rfl) rfl ?_)
        clear hE a; intro a hE
        refine p_cons (s_skip p47_4_20 hE (wn_some g47_4_18 rfl rfl) rfl ?_)
        clear hE a; intro a hE
        refine p_cons (s_skip p47_4_21 hE (wn_some g47_4_18 rfl rfl) rfl ?_)
        clear hE a; intro a hE
        refine p_cons (s_skip p47_4_22 hE (wn_some g47_4_18 rfl rfl) rfl ?_)
        clear hE a; intro a hE
        refine p_cons (s_skip p47_4_23 hE (wn_some g47_4_18 rfl rfl) rfl ?_)
        clear hE a; intro a hE
        refine p_cons (s_skip p47_4_24 hE (wn_undef g47_4_23 rfl) rfl ?_)
        clear hE a; intro a hE
        refine p_cons (s_skip p47_4_25 hE (wn_undef g47_4_23 rfl) rfl ?_)
        clear hE a; intro a hE
        refine p_cons (s_skip p47_4_26 hE (wn_undef g47_4_23 rfl) rfl ?_)
        clear hE a; intro a hE
        refine p_cons (s_skip p47_4_27 hE (wn_undef g47_4_23 rfl) rfl ?_)
        clear hE a; intro a hE
        refine p_cons (s_skip p47_4_28 hE (wn_some g47_4_18 rfl rfl) rfl ?_)
        clear hE a; intro a hE
        refine q0 p47_4_29 hE (st_pick rfl rfl) ?_
        clear hE a; intro a hE
        refine q0 p47_4_30 hE (st_assign rfl) ?_
        clear hE a; intro a hE
        refine p_nil ?_
        refine x_norm ?_
        refine c_cond (t := true) hE rfl ?_
        refine c_reg R47_5_l ?_
        refine q0 p47_5_0 hE (st_assign rfl) ?_
        clear hE a; intro a hE
        refine p_nil ?_
        refine x_norm ?_
        refine wp_ret ?_
        refine x_retB ?_
        refine x_ret ?_
        refine ret_one (v := Value.int .i64 3) rfl hE (.tmp rfl .nil) ?_
        have ec : chkO (k : Int) nb l f tn = chkF k nb l f tn := by unfold chkO; rw [if_pos ⟨by omega, by omega⟩]; rfl
        exact ⟨by rw [ec]; unfold chkF; rw [if_pos (Or.inl hL)], K_0⟩
    ·
      refine c_reg R47_1_l ?_
      refine q0 p47_1_0 hE (st_fieldAddr Try.underlying64 rfl tS3 rfl rfl) ?_
      clear hE a; intro a hE
      refine q0 p47_1_1 hE (st_load1 tA3 rfl ((blk_cell B_g1 0).trans rfl)) ?_
      clear hE a; intro a hE
      refine p_cons (s_call (xs := [Operand.tmp 8]) (args := [Value.int .i64 (k : Int)]) p47_1_2 hE wn_none rfl rfl Try.func93 cl93 (of_okb k hk9 false (by simpa using hAD) _) ?_)
      rintro e w22 ⟨A1, c1, rfl, hF1, hc1, hk⟩
      replace B_g1 := kp_blk B_g1 hk (fun h => h)
      replace K_0 := K_0.then_ hk (fun _ h => h.elim)
      have K_s23 := Kp.refl w22 (fun _ => False)
      have F_1 : ∀ W', Kp w22 W' (fun _ => False) → Kd.C (Kd.int .i64) W' A1 (sizesF k).length (sizesF k) := hF1
      refine ⟨_, rfl, ?_⟩
      clear hE a; intro a hE
      refine q0 p47_1_3 hE (st_move rfl) ?_
      clear hE a; intro a hE
      refine q0 p47_1_4 hE (st_extract rfl rfl) ?_
      clear hE a; intro a hE
      refine q0 p47_1_5 hE (st_extract rfl rfl) ?_
      clear hE a; intro a hE
      refine p_cons (s_alloc p47_1_6 hE wn_none rfl tZ157 ?_)
      clear hE a; intro g24 w25 z26 B_g24 hk a hE
      replace B_g24 : w25.heap[g24]? = some (.cells #[Value.string ByteArray.empty, Value.slice none 0 0, Value.int .i64 0, Value.bool false, Value.int .i64 0, Value.int .i64 0] 157 (0, 0)) := B_g24
      have n_g1_g24 : g1 ≠ g24 := ne_new B_g1 z26
      have z_0_g24 := Nat.le_trans K_0.kept.1 z26
      have z_s23_g24 := Nat.le_trans K_s23.kept.1 z26
      replace B_g1 := kp_blk B_g1 hk (fun h => h)
      replace K_0 := K_0.then_ hk (fun _ h => h.elim)
      replace K_s23 := K_s23.then_ hk (fun _ h => h.elim)
      clear hk
      refine p_cons (s_store (off := 0) (k := 6) (cs' := #[Value.string (wordF k), Value.slice A1 ((sizesF k).length) c1, Value.int .i64 (behindF k), Value.bool false, Value.int .i64 (lenF k), Value.int .i64 (zeroF k)]) p47_1_7 hE wn_none tS157 rfl rfl rfl rfl B_g24 (Nat.le_of_ble_eq_true rfl) rfl ?_)
      intro w27 B_g24' hk
      replace B_g1 := kp_blk B_g1 hk n_g1_g24
      replace K_0 := K_0.then_ hk (fun k h => by rw [show k = g24 from h]; exact Or.inr z_0_g24)
      replace K_s23 := K_s23.then_ hk (fun k h => by rw [show k = g24 from h]; exact Or.inr z_s23_g24)
      replace B_g24 := B_g24'
      clear hk
      refine q0 p47_1_8 hE (st_assign rfl) ?_
      clear hE a; intro a hE
      refine p_nil ?_
      refine x_norm ?_
      refine wp_seq ?_
      refine wp_block ?_
      refine c_reg R47_2_l ?_
      refine q0 p47_2_0 hE (st_move rfl) ?_
      clear hE a; intro a hE
      refine q0 p47_2_1 hE (st_not rfl rfl) ?_
      clear hE a; intro a hE
      refine q0 p47_2_2 hE (st_assign rfl) ?_
      clear hE a; intro a hE
      refine p_nil ?_
      refine x_norm ?_
      refine c_cond (t := false) hE rfl ?_
      rcases Decidable.em (nb = (sizesF k).length) with hL | hL
      ·
        subst hL
        rcases Decidable.em (eqL (b16 f) (b16 (fun _ => 0)) = true) with hAZ | hAZ
        ·
          rcases Decidable.em (0 < tn) with hTX | hTX
          ·
            rcases Decidable.em (k = 2) with hK2 | hK2
            ·
              refine c_reg R47_4_l ?_
              refine q0 p47_4_0 hE (st_fieldAddr Try.underlying64 rfl tS62 rfl rfl) ?_
              clear hE a; intro a hE
              refine q0 p47_4_1 hE (st_load1 tA62 rfl ((blk_cell B_g1 1).trans rfl)) ?_
              clear hE a; intro a hE
              refine q0 p47_4_2 hE (st_len Try.underlying62 rfl) ?_
              clear hE a; intro a hE
              refine q0 p47_4_3 hE (st_fieldAddr Try.underlying157 rfl tS62 rfl rfl) ?_
              clear hE a; intro a hE
              refine q0 p47_4_4 hE (st_load1 tA62 rfl ((blk_cell B_g24 1).trans rfl)) ?_
              clear hE a; intro a hE
              refine q0 p47_4_5 hE (st_len Try.underlying62 rfl) ?_
              clear hE a; intro a hE
              refine q0 p47_4_6 hE (st_neq (b := false) rfl rfl (by simp)) ?_
              clear hE a; intro a hE
              refine q0 p47_4_7 hE (st_move rfl) ?_
              clear hE a; intro a hE
              refine p_cons (s_still p47_4_8 hE (wn_some g47_4_7 rfl rfl) rfl (st_fieldAddr Try.underlying64 rfl tS25 rfl rfl) ?_)
              clear hE a; intro a hE
              refine p_cons (s_still p47_4_9 hE (wn_some g47_4_7 rfl rfl) rfl (st_loadN (off := 2) (k := 16) (vs := b16 f) tA25 tS25 rfl B_g1 rfl rfl) ?_)
              clear hE a; intro a hE
              refine p_cons (s_still p47_4_10 hE (wn_some g47_4_7 rfl rfl) rfl (st_build (xs := []) (vs := []) (cs := (b16 (fun _ => 0)).toArray) rfl (by kernel_rfl)) ?_)
              clear hE a; intro a hE
              refine p_cons (s_still p47_4_11 hE (wn_some g47_4_7 rfl rfl) rfl (st_neqA (b := true) eg25 rfl rfl (eqA_flat eqZ_ks (by kernel_rfl) rfl rfl hAZ)) ?_)
              clear hE a; intro a hE
              refine p_cons (s_still p47_4_12 hE (wn_some g47_4_7 rfl rfl) rfl (st_move rfl) ?_)
              clear hE a; intro a hE
              refine p_cons (s_skip p47_4_13 hE (wn_some g47_4_12 rfl rfl) rfl ?_)
              clear hE a; intro a hE
              refine p_cons (s_skip p47_4_14 hE (wn_some g47_4_12 rfl rfl) rfl ?_)
              clear hE a; intro a hE
              refine p_cons (s_skip p47_4_15 hE (wn_some g47_4_12 rfl rfl) rfl ?_)
              clear hE a; intro a hE
              refine p_cons (s_still p47_4_16 hE (wn_some g47_4_7 rfl rfl) rfl (st_pick rfl rfl) ?_)
              clear hE a; intro a hE
              refine q0 p47_4_17 hE (st_pick rfl rfl) ?_
              clear hE a; intro a hE
              refine q0 p47_4_18 hE (st_move rfl) ?_
              clear hE a; intro a hE
              refine p_cons (s_still p47_4_19 hE (wn_some g47_4_18 rfl rfl) rfl (st_fieldAddr Try.underlying64 rfl tS36 rfl rfl) ?_)
              clear hE a; intro a hE
              refine p_cons (s_still p47_4_20 hE (wn_some g47_4_18 rfl rfl) rfl (st_load1 tA36 rfl ((blk_cell B_g1 18).trans rfl)) ?_)
              clear hE a; intro a hE
              refine p_cons (s_still p47_4_21 hE (wn_some g47_4_18 rfl rfl) rfl (st_len Try.underlying36 rfl) ?_)
              clear hE a; intro a hE
              refine p_cons (s_still p47_4_22 hE (wn_some g47_4_18 rfl rfl) rfl (st_gtr (b := true) rfl rfl (decide_eq_true (by omega))) ?_)
              clear hE a; intro a hE
              refine p_cons (s_still p47_4_23 hE (wn_some g47_4_18 rfl rfl) rfl (st_move rfl) ?_)
              clear hE a; intro a hE
              refine p_cons (s_still p47_4_24 hE (wn_some g47_4_23 rfl rfl) rfl (st_fieldAddr Try.underlying64 rfl tS3 rfl rfl) ?_)
              clear hE a; intro a hE
              refine p_cons (s_still p47_4_25 hE (wn_some g47_4_23 rfl rfl) rfl (st_load1 tA3 rfl ((blk_cell B_g1 0).trans rfl)) ?_)
              clear hE a; intro a hE
              refine p_cons (s_call (xs := [Operand.tmp 41]) (args := [Value.int .i64 (k : Int)]) p47_4_26 hE (wn_some g47_4_23 rfl rfl) rfl rfl Try.func95 cl95 (texts_any (k : Int) true (decide_eq_true (by omega)) _) ?_)
              rintro e w28 ⟨rfl, hk⟩
              replace B_g1 := kp_blk B_g1 hk (fun h => h)
              replace B_g24 := kp_blk B_g24 hk (fun h => h)
              replace K_0 := K_0.then_ hk (fun _ h => h.elim)
              replace K_s23 := K_s23.then_ hk (fun _ h => h.elim)
              refine ⟨_, rfl, ?_⟩
              clear hE a; intro a hE
              refine p_cons (s_still p47_4_27 hE (wn_some g47_4_23 rfl rfl) rfl (st_not rfl rfl) ?_)
              clear hE a; intro a hE
              refine p_cons (s_still p47_4_28 hE (wn_some g47_4_18 rfl rfl) rfl (st_pick rfl rfl) ?_)
              clear hE a; intro a hE
              refine q0 p47_4_29 hE (st_pick rfl rfl) ?_
              clear hE a; intro a hE
              refine q0 p47_4_30 hE (st_assign rfl) ?_
              clear hE a; intro a hE
              refine p_nil ?_
              refine x_norm ?_
              refine c_cond (t := false) hE rfl ?_
              refine wp_skip ?_
              refine x_normB ?_
              refine x_norm ?_
              refine wp_seq ?_
              rcases Decidable.em (numB (sizesF k) (lenF k) (zeroF k) l = true) with hNB | hNB
              ·
                refine c_reg R47_6_l ?_
                refine q0 p47_6_0 hE (st_loadN (off := 0) (k := 6) (vs := [Value.string (wordF k), Value.slice A1 ((sizesF k).length) c1, Value.int .i64 (behindF k), Value.bool false, Value.int .i64 (lenF k), Value.int .i64 (zeroF k)]) tA157 tS157 rfl B_g24 rfl rfl) ?_
                clear hE a; intro a hE
                refine q0 p47_6_1 hE (st_fieldAddr Try.underlying64 rfl tS62 rfl rfl) ?_
                clear hE a; intro a hE
                refine q0 p47_6_2 hE (st_load1 tA62 rfl ((blk_cell B_g1 1).trans rfl)) ?_
                clear hE a; intro a hE
                refine p_cons (s_call (xs := [Operand.tmp 46, Operand.tmp 48]) (args := [Value.agg #[Value.string (wordF k), Value.slice A1 ((sizesF k).length) c1, Value.int .i64 (behindF k), Value.bool false, Value.int .i64 (lenF k), Value.int .i64 (zeroF k)], Value.slice B ((sizesF k).length) cb]) p47_6_3 hE wn_none rfl rfl Try.func96 cl96 (num_any (wordF k) A1 B c1 cb ((sizesF k).length) (behindF k) (lenF k) (zeroF k) false (sizesF k) l true hNB rfl (by have := sizes_len k; omega) _ (fun W' hk => F_1 W' (K_s23.then_ hk (fun _ h => h.elim))) (fun W' hk => F_B W' (K_0.then_ hk (fun _ h => h.elim)))) ?_)
                rintro e w29 ⟨rfl, hk⟩
                replace B_g1 := kp_blk B_g1 hk (fun h => h)
                replace B_g24 := kp_blk B_g24 hk (fun h => h)
                replace K_0 := K_0.then_ hk (fun _ h => h.elim)
                replace K_s23 := K_s23.then_ hk (fun _ h => h.elim)
                refine ⟨_, rfl, ?_⟩
                clear hE a; intro a hE
                refine q0 p47_6_4 hE (st_assign rfl) ?_
                clear hE a; intro a hE
                refine p_nil ?_
                refine x_norm ?_
                refine c_reg R47_7_l ?_
                refine q0 p47_7_0 hE (st_move rfl) ?_
                clear hE a; intro a hE
                refine q0 p47_7_1 hE (st_neq (b := false) rfl rfl (by decide)) ?_
                clear hE a; intro a hE
                refine p_nil ?_
                refine x_norm ?_
                refine c_cond (t := false) hE rfl ?_
                refine wp_skip ?_
                refine x_norm ?_
                refine wp_seq ?_
                rcases Decidable.em (64 < tn) with hT6 | hT6
                ·
                  refine c_reg R47_9_l ?_
                  refine q0 p47_9_0 hE (st_fieldAddr Try.underlying64 rfl tS36 rfl rfl) ?_
                  clear hE a; intro a hE
                  refine q0 p47_9_1 hE (st_load1 tA36 rfl ((blk_cell B_g1 18).trans rfl)) ?_
                  clear hE a; intro a hE
                  refine q0 p47_9_2 hE (st_len Try.underlying36 rfl) ?_
                  clear hE a; intro a hE
                  refine q0 p47_9_3 hE (st_gtr (b := true) rfl rfl (decide_eq_true (by omega))) ?_
                  clear hE a; intro a hE
                  refine p_nil ?_
                  refine x_norm ?_
                  refine c_cond (t := true) hE rfl ?_
                  refine c_reg R47_10_l ?_
                  refine q0 p47_10_0 hE (st_assign rfl) ?_
                  clear hE a; intro a hE
                  refine p_nil ?_
                  refine x_norm ?_
                  refine wp_ret ?_
                  refine x_ret ?_
                  refine ret_one (v := Value.int .i64 2) rfl hE (.tmp rfl .nil) ?_
                  have ec : chkO (k : Int) (sizesF k).length l f tn = chkF k (sizesF k).length l f tn := by unfold chkO; rw [if_pos ⟨by omega, by omega⟩]; rfl
                  exact ⟨by rw [ec]; unfold chkF; rw [if_neg (by intro h; rcases h with h | h | h; exact h rfl; exact h.1 hAZ; exact h.2 hK2), if_neg (fun h => h hNB), if_pos hT6], K_0⟩
                ·
                  refine c_reg R47_9_l ?_
                  refine q0 p47_9_0 hE (st_fieldAddr Try.underlying64 rfl tS36 rfl rfl) ?_
                  clear hE a; intro a hE
                  refine q0 p47_9_1 hE (st_load1 tA36 rfl ((blk_cell B_g1 18).trans rfl)) ?_
                  clear hE a; intro a hE
                  refine q0 p47_9_2 hE (st_len Try.underlying36 rfl) ?_
                  clear hE a; intro a hE
                  refine q0 p47_9_3 hE (st_gtr (b := false) rfl rfl (decide_eq_false (by omega))) ?_
                  clear hE a; intro a hE
                  refine p_nil ?_
                  refine x_norm ?_
                  refine c_cond (t := false) hE rfl ?_
                  refine wp_skip ?_
                  refine x_norm ?_
                  refine c_reg R47_11_l ?_
                  refine q0 p47_11_0 hE (st_assign rfl) ?_
                  clear hE a; intro a hE
                  refine p_nil ?_
                  refine x_norm ?_
                  refine wp_ret ?_
                  refine ret_one (v := Value.int .i64 0) rfl hE (.tmp rfl .nil) ?_
                  have ec : chkO (k : Int) (sizesF k).length l f tn = chkF k (sizesF k).length l f tn := by unfold chkO; rw [if_pos ⟨by omega, by omega⟩]; rfl
                  exact ⟨by rw [ec]; unfold chkF; rw [if_neg (by intro h; rcases h with h | h | h; exact h rfl; exact h.1 hAZ; exact h.2 hK2), if_neg (fun h => h hNB), if_neg hT6], K_0⟩
              ·
                refine c_reg R47_6_l ?_
                refine q0 p47_6_0 hE (st_loadN (off := 0) (k := 6) (vs := [Value.string (wordF k), Value.slice A1 ((sizesF k).length) c1, Value.int .i64 (behindF k), Value.bool false, Value.int .i64 (lenF k), Value.int .i64 (zeroF k)]) tA157 tS157 rfl B_g24 rfl rfl) ?_
                clear hE a; intro a hE
                refine q0 p47_6_1 hE (st_fieldAddr Try.underlying64 rfl tS62 rfl rfl) ?_
                clear hE a; intro a hE
                refine q0 p47_6_2 hE (st_load1 tA62 rfl ((blk_cell B_g1 1).trans rfl)) ?_
                clear hE a; intro a hE
                refine p_cons (s_call (xs := [Operand.tmp 46, Operand.tmp 48]) (args := [Value.agg #[Value.string (wordF k), Value.slice A1 ((sizesF k).length) c1, Value.int .i64 (behindF k), Value.bool false, Value.int .i64 (lenF k), Value.int .i64 (zeroF k)], Value.slice B ((sizesF k).length) cb]) p47_6_3 hE wn_none rfl rfl Try.func96 cl96 (num_any (wordF k) A1 B c1 cb ((sizesF k).length) (behindF k) (lenF k) (zeroF k) false (sizesF k) l false (by simpa using hNB) rfl (by have := sizes_len k; omega) _ (fun W' hk => F_1 W' (K_s23.then_ hk (fun _ h => h.elim))) (fun W' hk => F_B W' (K_0.then_ hk (fun _ h => h.elim)))) ?_)
                rintro e w30 ⟨rfl, hk⟩
                replace B_g1 := kp_blk B_g1 hk (fun h => h)
                replace B_g24 := kp_blk B_g24 hk (fun h => h)
                replace K_0 := K_0.then_ hk (fun _ h => h.elim)
                replace K_s23 := K_s23.then_ hk (fun _ h => h.elim)
                refine ⟨_, rfl, ?_⟩
                clear hE a; intro a hE
                refine q0 p47_6_4 hE (st_assign rfl) ?_
                clear hE a; intro a hE
                refine p_nil ?_
                refine x_norm ?_
                refine c_reg R47_7_l ?_
                refine q0 p47_7_0 hE (st_move rfl) ?_
                clear hE a; intro a hE
                refine q0 p47_7_1 hE (st_neq (b := true) rfl rfl (by decide)) ?_
                clear hE a; intro a hE
                refine p_nil ?_
                refine x_norm ?_
                refine c_cond (t := true) hE rfl ?_
                refine c_reg R47_8_l ?_
                refine q0 p47_8_0 hE (st_move rfl) ?_
                clear hE a; intro a hE
                refine q0 p47_8_1 hE (st_assign rfl) ?_
                clear hE a; intro a hE
                refine p_nil ?_
                refine x_norm ?_
                refine wp_ret ?_
                refine x_ret ?_
                refine ret_one (v := Value.int .i64 1) rfl hE (.tmp rfl .nil) ?_
                have ec : chkO (k : Int) (sizesF k).length l f tn = chkF k (sizesF k).length l f tn := by unfold chkO; rw [if_pos ⟨by omega, by omega⟩]; rfl
                exact ⟨by rw [ec]; unfold chkF; rw [if_neg (by intro h; rcases h with h | h | h; exact h rfl; exact h.1 hAZ; exact h.2 hK2), if_pos hNB], K_0⟩
            ·
              refine c_reg R47_4_l ?_
              refine q0 p47_4_0 hE (st_fieldAddr Try.underlying64 rfl tS62 rfl rfl) ?_
              clear hE a; intro a hE
              refine q0 p47_4_1 hE (st_load1 tA62 rfl ((blk_cell B_g1 1).trans rfl)) ?_
              clear hE a; intro a hE
              refine q0 p47_4_2 hE (st_len Try.underlying62 rfl) ?_
              clear hE a; intro a hE
              refine q0 p47_4_3 hE (st_fieldAddr Try.underlying157 rfl tS62 rfl rfl) ?_
              clear hE a; intro a hE
              refine q0 p47_4_4 hE (st_load1 tA62 rfl ((blk_cell B_g24 1).trans rfl)) ?_
              clear hE a; intro a hE
              refine q0 p47_4_5 hE (st_len Try.underlying62 rfl) ?_
              clear hE a; intro a hE
              refine q0 p47_4_6 hE (st_neq (b := false) rfl rfl (by simp)) ?_
              clear hE a; intro a hE
              refine q0 p47_4_7 hE (st_move rfl) ?_
              clear hE a; intro a hE
              refine p_cons (s_still p47_4_8 hE (wn_some g47_4_7 rfl rfl) rfl (st_fieldAddr Try.underlying64 rfl tS25 rfl rfl) ?_)
              clear hE a; intro a hE
              refine p_cons (s_still p47_4_9 hE (wn_some g47_4_7 rfl rfl) rfl (st_loadN (off := 2) (k := 16) (vs := b16 f) tA25 tS25 rfl B_g1 rfl rfl) ?_)
              clear hE a; intro a hE
              refine p_cons (s_still p47_4_10 hE (wn_some g47_4_7 rfl rfl) rfl (st_build (xs := []) (vs := []) (cs := (b16 (fun _ => 0)).toArray) rfl (by kernel_rfl)) ?_)
              clear hE a; intro a hE
              refine p_cons (s_still p47_4_11 hE (wn_some g47_4_7 rfl rfl) rfl (st_neqA (b := true) eg25 rfl rfl (eqA_flat eqZ_ks (by kernel_rfl) rfl rfl hAZ)) ?_)
              clear hE a; intro a hE
              refine p_cons (s_still p47_4_12 hE (wn_some g47_4_7 rfl rfl) rfl (st_move rfl) ?_)
              clear hE a; intro a hE
              refine p_cons (s_skip p47_4_13 hE (wn_some g47_4_12 rfl rfl) rfl ?_)
              clear hE a; intro a hE
              refine p_cons (s_skip p47_4_14 hE (wn_some g47_4_12 rfl rfl) rfl ?_)
              clear hE a; intro a hE
              refine p_cons (s_skip p47_4_15 hE (wn_some g47_4_12 rfl rfl) rfl ?_)
              clear hE a; intro a hE
              refine p_cons (s_still p47_4_16 hE (wn_some g47_4_7 rfl rfl) rfl (st_pick rfl rfl) ?_)
              clear hE a; intro a hE
              refine q0 p47_4_17 hE (st_pick rfl rfl) ?_
              clear hE a; intro a hE
              refine q0 p47_4_18 hE (st_move rfl) ?_
              clear hE a; intro a hE
              refine p_cons (s_still p47_4_19 hE (wn_some g47_4_18 rfl rfl) rfl (st_fieldAddr Try.underlying64 rfl tS36 rfl rfl) ?_)
              clear hE a; intro a hE
              refine p_cons (s_still p47_4_20 hE (wn_some g47_4_18 rfl rfl) rfl (st_load1 tA36 rfl ((blk_cell B_g1 18).trans rfl)) ?_)
              clear hE a; intro a hE
              refine p_cons (s_still p47_4_21 hE (wn_some g47_4_18 rfl rfl) rfl (st_len Try.underlying36 rfl) ?_)
              clear hE a; intro a hE
              refine p_cons (s_still p47_4_22 hE (wn_some g47_4_18 rfl rfl) rfl (st_gtr (b := true) rfl rfl (decide_eq_true (by omega))) ?_)
              clear hE a; intro a hE
              refine p_cons (s_still p47_4_23 hE (wn_some g47_4_18 rfl rfl) rfl (st_move rfl) ?_)
              clear hE a; intro a hE
              refine p_cons (s_still p47_4_24 hE (wn_some g47_4_23 rfl rfl) rfl (st_fieldAddr Try.underlying64 rfl tS3 rfl rfl) ?_)
              clear hE a; intro a hE
              refine p_cons (s_still p47_4_25 hE (wn_some g47_4_23 rfl rfl) rfl (st_load1 tA3 rfl ((blk_cell B_g1 0).trans rfl)) ?_)
              clear hE a; intro a hE
              refine p_cons (s_call (xs := [Operand.tmp 41]) (args := [Value.int .i64 (k : Int)]) p47_4_26 hE (wn_some g47_4_23 rfl rfl) rfl rfl Try.func95 cl95 (texts_any (k : Int) false (decide_eq_false (by omega)) _) ?_)
              rintro e w31 ⟨rfl, hk⟩
              replace B_g1 := kp_blk B_g1 hk (fun h => h)
              replace B_g24 := kp_blk B_g24 hk (fun h => h)
              replace K_0 := K_0.then_ hk (fun _ h => h.elim)
              replace K_s23 := K_s23.then_ hk (fun _ h => h.elim)
              refine ⟨_, rfl, ?_⟩
              clear hE a; intro a hE
              refine p_cons (s_still p47_4_27 hE (wn_some g47_4_23 rfl rfl) rfl (st_not rfl rfl) ?_)
              clear hE a; intro a hE
              refine p_cons (s_still p47_4_28 hE (wn_some g47_4_18 rfl rfl) rfl (st_pick rfl rfl) ?_)
              clear hE a; intro a hE
              refine q0 p47_4_29 hE (st_pick rfl rfl) ?_
              clear hE a; intro a hE
              refine q0 p47_4_30 hE (st_assign rfl) ?_
              clear hE a; intro a hE
              refine p_nil ?_
              refine x_norm ?_
              refine c_cond (t := true) hE rfl ?_
              refine c_reg R47_5_l ?_
              refine q0 p47_5_0 hE (st_assign rfl) ?_
              clear hE a; intro a hE
              refine p_nil ?_
              refine x_norm ?_
              refine wp_ret ?_
              refine x_retB ?_
              refine x_ret ?_
              refine ret_one (v := Value.int .i64 3) rfl hE (.tmp rfl .nil) ?_
              have ec : chkO (k : Int) (sizesF k).length l f tn = chkF k (sizesF k).length l f tn := by unfold chkO; rw [if_pos ⟨by omega, by omega⟩]; rfl
              exact ⟨by rw [ec]; unfold chkF; rw [if_pos (Or.inr (Or.inr ⟨hTX, hK2⟩))], K_0⟩
          ·
            refine c_reg R47_4_l ?_
            refine q0 p47_4_0 hE (st_fieldAddr Try.underlying64 rfl tS62 rfl rfl) ?_
            clear hE a; intro a hE
            refine q0 p47_4_1 hE (st_load1 tA62 rfl ((blk_cell B_g1 1).trans rfl)) ?_
            clear hE a; intro a hE
            refine q0 p47_4_2 hE (st_len Try.underlying62 rfl) ?_
            clear hE a; intro a hE
            refine q0 p47_4_3 hE (st_fieldAddr Try.underlying157 rfl tS62 rfl rfl) ?_
            clear hE a; intro a hE
            refine q0 p47_4_4 hE (st_load1 tA62 rfl ((blk_cell B_g24 1).trans rfl)) ?_
            clear hE a; intro a hE
            refine q0 p47_4_5 hE (st_len Try.underlying62 rfl) ?_
            clear hE a; intro a hE
            refine q0 p47_4_6 hE (st_neq (b := false) rfl rfl (by simp)) ?_
            clear hE a; intro a hE
            refine q0 p47_4_7 hE (st_move rfl) ?_
            clear hE a; intro a hE
            refine p_cons (s_still p47_4_8 hE (wn_some g47_4_7 rfl rfl) rfl (st_fieldAddr Try.underlying64 rfl tS25 rfl rfl) ?_)
            clear hE a; intro a hE
            refine p_cons (s_still p47_4_9 hE (wn_some g47_4_7 rfl rfl) rfl (st_loadN (off := 2) (k := 16) (vs := b16 f) tA25 tS25 rfl B_g1 rfl rfl) ?_)
            clear hE a; intro a hE
            refine p_cons (s_still p47_4_10 hE (wn_some g47_4_7 rfl rfl) rfl (st_build (xs := []) (vs := []) (cs := (b16 (fun _ => 0)).toArray) rfl (by kernel_rfl)) ?_)
            clear hE a; intro a hE
            refine p_cons (s_still p47_4_11 hE (wn_some g47_4_7 rfl rfl) rfl (st_neqA (b := true) eg25 rfl rfl (eqA_flat eqZ_ks (by kernel_rfl) rfl rfl hAZ)) ?_)
            clear hE a; intro a hE
            refine p_cons (s_still p47_4_12 hE (wn_some g47_4_7 rfl rfl) rfl (st_move rfl) ?_)
            clear hE a; intro a hE
            refine p_cons (s_skip p47_4_13 hE (wn_some g47_4_12 rfl rfl) rfl ?_)
            clear hE a; intro a hE
            refine p_cons (s_skip p47_4_14 hE (wn_some g47_4_12 rfl rfl) rfl ?_)
            clear hE a; intro a hE
            refine p_cons (s_skip p47_4_15 hE (wn_some g47_4_12 rfl rfl) rfl ?_)
            clear hE a; intro a hE
            refine p_cons (s_still p47_4_16 hE (wn_some g47_4_7 rfl rfl) rfl (st_pick rfl rfl) ?_)
            clear hE a; intro a hE
            refine q0 p47_4_17 hE (st_pick rfl rfl) ?_
            clear hE a; intro a hE
            refine q0 p47_4_18 hE (st_move rfl) ?_
            clear hE a; intro a hE
            refine p_cons (s_still p47_4_19 hE (wn_some g47_4_18 rfl rfl) rfl (st_fieldAddr Try.underlying64 rfl tS36 rfl rfl) ?_)
            clear hE a; intro a hE
            refine p_cons (s_still p47_4_20 hE (wn_some g47_4_18 rfl rfl) rfl (st_load1 tA36 rfl ((blk_cell B_g1 18).trans rfl)) ?_)
            clear hE a; intro a hE
            refine p_cons (s_still p47_4_21 hE (wn_some g47_4_18 rfl rfl) rfl (st_len Try.underlying36 rfl) ?_)
            clear hE a; intro a hE
            refine p_cons (s_still p47_4_22 hE (wn_some g47_4_18 rfl rfl) rfl (st_gtr (b := false) rfl rfl (decide_eq_false (by omega))) ?_)
            clear hE a; intro a hE
            refine p_cons (s_still p47_4_23 hE (wn_some g47_4_18 rfl rfl) rfl (st_move rfl) ?_)
            clear hE a; intro a hE
            refine p_cons (s_skip p47_4_24 hE (wn_some g47_4_23 rfl rfl) rfl ?_)
            clear hE a; intro a hE
            refine p_cons (s_skip p47_4_25 hE (wn_some g47_4_23 rfl rfl) rfl ?_)
            clear hE a; intro a hE
            refine p_cons (s_skip p47_4_26 hE (wn_some g47_4_23 rfl rfl) rfl ?_)
            clear hE a; intro a hE
            refine p_cons (s_skip p47_4_27 hE (wn_some g47_4_23 rfl rfl) rfl ?_)
            clear hE a; intro a hE
            refine p_cons (s_still p47_4_28 hE (wn_some g47_4_18 rfl rfl) rfl (st_pick rfl rfl) ?_)
            clear hE a; intro a hE
            refine q0 p47_4_29 hE (st_pick rfl rfl) ?_
            clear hE a; intro a hE
            refine q0 p47_4_30 hE (st_assign rfl) ?_
            clear hE a; intro a hE
            refine p_nil ?_
            refine x_norm ?_
            refine c_cond (t := false) hE rfl ?_
            refine wp_skip ?_
            refine x_normB ?_
            refine x_norm ?_
            refine wp_seq ?_
            rcases Decidable.em (numB (sizesF k) (lenF k) (zeroF k) l = true) with hNB | hNB
            ·
              refine c_reg R47_6_l ?_
              refine q0 p47_6_0 hE (st_loadN (off := 0) (k := 6) (vs := [Value.string (wordF k), Value.slice A1 ((sizesF k).length) c1, Value.int .i64 (behindF k), Value.bool false, Value.int .i64 (lenF k), Value.int .i64 (zeroF k)]) tA157 tS157 rfl B_g24 rfl rfl) ?_
              clear hE a; intro a hE
              refine q0 p47_6_1 hE (st_fieldAddr Try.underlying64 rfl tS62 rfl rfl) ?_
              clear hE a; intro a hE
              refine q0 p47_6_2 hE (st_load1 tA62 rfl ((blk_cell B_g1 1).trans rfl)) ?_
              clear hE a; intro a hE
              refine p_cons (s_call (xs := [Operand.tmp 46, Operand.tmp 48]) (args := [Value.agg #[Value.string (wordF k), Value.slice A1 ((sizesF k).length) c1, Value.int .i64 (behindF k), Value.bool false, Value.int .i64 (lenF k), Value.int .i64 (zeroF k)], Value.slice B ((sizesF k).length) cb]) p47_6_3 hE wn_none rfl rfl Try.func96 cl96 (num_any (wordF k) A1 B c1 cb ((sizesF k).length) (behindF k) (lenF k) (zeroF k) false (sizesF k) l true hNB rfl (by have := sizes_len k; omega) _ (fun W' hk => F_1 W' (K_s23.then_ hk (fun _ h => h.elim))) (fun W' hk => F_B W' (K_0.then_ hk (fun _ h => h.elim)))) ?_)
              rintro e w32 ⟨rfl, hk⟩
              replace B_g1 := kp_blk B_g1 hk (fun h => h)
              replace B_g24 := kp_blk B_g24 hk (fun h => h)
              replace K_0 := K_0.then_ hk (fun _ h => h.elim)
              replace K_s23 := K_s23.then_ hk (fun _ h => h.elim)
              refine ⟨_, rfl, ?_⟩
              clear hE a; intro a hE
              refine q0 p47_6_4 hE (st_assign rfl) ?_
              clear hE a; intro a hE
              refine p_nil ?_
              refine x_norm ?_
              refine c_reg R47_7_l ?_
              refine q0 p47_7_0 hE (st_move rfl) ?_
              clear hE a; intro a hE
              refine q0 p47_7_1 hE (st_neq (b := false) rfl rfl (by decide)) ?_
              clear hE a; intro a hE
              refine p_nil ?_
              refine x_norm ?_
              refine c_cond (t := false) hE rfl ?_
              refine wp_skip ?_
              refine x_norm ?_
              refine wp_seq ?_
              rcases Decidable.em (64 < tn) with hT6 | hT6
              ·
                refine c_reg R47_9_l ?_
                refine q0 p47_9_0 hE (st_fieldAddr Try.underlying64 rfl tS36 rfl rfl) ?_
                clear hE a; intro a hE
                refine q0 p47_9_1 hE (st_load1 tA36 rfl ((blk_cell B_g1 18).trans rfl)) ?_
                clear hE a; intro a hE
                refine q0 p47_9_2 hE (st_len Try.underlying36 rfl) ?_
                clear hE a; intro a hE
                refine q0 p47_9_3 hE (st_gtr (b := true) rfl rfl (decide_eq_true (by omega))) ?_
                clear hE a; intro a hE
                refine p_nil ?_
                refine x_norm ?_
                refine c_cond (t := true) hE rfl ?_
                refine c_reg R47_10_l ?_
                refine q0 p47_10_0 hE (st_assign rfl) ?_
                clear hE a; intro a hE
                refine p_nil ?_
                refine x_norm ?_
                refine wp_ret ?_
                refine x_ret ?_
                refine ret_one (v := Value.int .i64 2) rfl hE (.tmp rfl .nil) ?_
                have ec : chkO (k : Int) (sizesF k).length l f tn = chkF k (sizesF k).length l f tn := by unfold chkO; rw [if_pos ⟨by omega, by omega⟩]; rfl
                exact ⟨by rw [ec]; unfold chkF; rw [if_neg (by intro h; rcases h with h | h | h; exact h rfl; exact h.1 hAZ; exact hTX h.1), if_neg (fun h => h hNB), if_pos hT6], K_0⟩
              ·
                refine c_reg R47_9_l ?_
                refine q0 p47_9_0 hE (st_fieldAddr Try.underlying64 rfl tS36 rfl rfl) ?_
                clear hE a; intro a hE
                refine q0 p47_9_1 hE (st_load1 tA36 rfl ((blk_cell B_g1 18).trans rfl)) ?_
                clear hE a; intro a hE
                refine q0 p47_9_2 hE (st_len Try.underlying36 rfl) ?_
                clear hE a; intro a hE
                refine q0 p47_9_3 hE (st_gtr (b := false) rfl rfl (decide_eq_false (by omega))) ?_
                clear hE a; intro a hE
                refine p_nil ?_
                refine x_norm ?_
                refine c_cond (t := false) hE rfl ?_
                refine wp_skip ?_
                refine x_norm ?_
                refine c_reg R47_11_l ?_
                refine q0 p47_11_0 hE (st_assign rfl) ?_
                clear hE a; intro a hE
                refine p_nil ?_
                refine x_norm ?_
                refine wp_ret ?_
                refine ret_one (v := Value.int .i64 0) rfl hE (.tmp rfl .nil) ?_
                have ec : chkO (k : Int) (sizesF k).length l f tn = chkF k (sizesF k).length l f tn := by unfold chkO; rw [if_pos ⟨by omega, by omega⟩]; rfl
                exact ⟨by rw [ec]; unfold chkF; rw [if_neg (by intro h; rcases h with h | h | h; exact h rfl; exact h.1 hAZ; exact hTX h.1), if_neg (fun h => h hNB), if_neg hT6], K_0⟩
            ·
              refine c_reg R47_6_l ?_
              refine q0 p47_6_0 hE (st_loadN (off := 0) (k := 6) (vs := [Value.string (wordF k), Value.slice A1 ((sizesF k).length) c1, Value.int .i64 (behindF k), Value.bool false, Value.int .i64 (lenF k), Value.int .i64 (zeroF k)]) tA157 tS157 rfl B_g24 rfl rfl) ?_
              clear hE a; intro a hE
              refine q0 p47_6_1 hE (st_fieldAddr Try.underlying64 rfl tS62 rfl rfl) ?_
              clear hE a; intro a hE
              refine q0 p47_6_2 hE (st_load1 tA62 rfl ((blk_cell B_g1 1).trans rfl)) ?_
              clear hE a; intro a hE
              refine p_cons (s_call (xs := [Operand.tmp 46, Operand.tmp 48]) (args := [Value.agg #[Value.string (wordF k), Value.slice A1 ((sizesF k).length) c1, Value.int .i64 (behindF k), Value.bool false, Value.int .i64 (lenF k), Value.int .i64 (zeroF k)], Value.slice B ((sizesF k).length) cb]) p47_6_3 hE wn_none rfl rfl Try.func96 cl96 (num_any (wordF k) A1 B c1 cb ((sizesF k).length) (behindF k) (lenF k) (zeroF k) false (sizesF k) l false (by simpa using hNB) rfl (by have := sizes_len k; omega) _ (fun W' hk => F_1 W' (K_s23.then_ hk (fun _ h => h.elim))) (fun W' hk => F_B W' (K_0.then_ hk (fun _ h => h.elim)))) ?_)
              rintro e w33 ⟨rfl, hk⟩
              replace B_g1 := kp_blk B_g1 hk (fun h => h)
              replace B_g24 := kp_blk B_g24 hk (fun h => h)
              replace K_0 := K_0.then_ hk (fun _ h => h.elim)
              replace K_s23 := K_s23.then_ hk (fun _ h => h.elim)
              refine ⟨_, rfl, ?_⟩
              clear hE a; intro a hE
              refine q0 p47_6_4 hE (st_assign rfl) ?_
              clear hE a; intro a hE
              refine p_nil ?_
              refine x_norm ?_
              refine c_reg R47_7_l ?_
              refine q0 p47_7_0 hE (st_move rfl) ?_
              clear hE a; intro a hE
              refine q0 p47_7_1 hE (st_neq (b := true) rfl rfl (by decide)) ?_
              clear hE a; intro a hE
              refine p_nil ?_
              refine x_norm ?_
              refine c_cond (t := true) hE rfl ?_
              refine c_reg R47_8_l ?_
              refine q0 p47_8_0 hE (st_move rfl) ?_
              clear hE a; intro a hE
              refine q0 p47_8_1 hE (st_assign rfl) ?_
              clear hE a; intro a hE
              refine p_nil ?_
              refine x_norm ?_
              refine wp_ret ?_
              refine x_ret ?_
              refine ret_one (v := Value.int .i64 1) rfl hE (.tmp rfl .nil) ?_
              have ec : chkO (k : Int) (sizesF k).length l f tn = chkF k (sizesF k).length l f tn := by unfold chkO; rw [if_pos ⟨by omega, by omega⟩]; rfl
              exact ⟨by rw [ec]; unfold chkF; rw [if_neg (by intro h; rcases h with h | h | h; exact h rfl; exact h.1 hAZ; exact hTX h.1), if_pos hNB], K_0⟩
        ·
          refine c_reg R47_4_l ?_
          refine q0 p47_4_0 hE (st_fieldAddr Try.underlying64 rfl tS62 rfl rfl) ?_
          clear hE a; intro a hE
          refine q0 p47_4_1 hE (st_load1 tA62 rfl ((blk_cell B_g1 1).trans rfl)) ?_
          clear hE a; intro a hE
          refine q0 p47_4_2 hE (st_len Try.underlying62 rfl) ?_
          clear hE a; intro a hE
          refine q0 p47_4_3 hE (st_fieldAddr Try.underlying157 rfl tS62 rfl rfl) ?_
          clear hE a; intro a hE
          refine q0 p47_4_4 hE (st_load1 tA62 rfl ((blk_cell B_g24 1).trans rfl)) ?_
          clear hE a; intro a hE
          refine q0 p47_4_5 hE (st_len Try.underlying62 rfl) ?_
          clear hE a; intro a hE
          refine q0 p47_4_6 hE (st_neq (b := false) rfl rfl (by simp)) ?_
          clear hE a; intro a hE
          refine q0 p47_4_7 hE (st_move rfl) ?_
          clear hE a; intro a hE
          refine p_cons (s_still p47_4_8 hE (wn_some g47_4_7 rfl rfl) rfl (st_fieldAddr Try.underlying64 rfl tS25 rfl rfl) ?_)
          clear hE a; intro a hE
          refine p_cons (s_still p47_4_9 hE (wn_some g47_4_7 rfl rfl) rfl (st_loadN (off := 2) (k := 16) (vs := b16 f) tA25 tS25 rfl B_g1 rfl rfl) ?_)
          clear hE a; intro a hE
          refine p_cons (s_still p47_4_10 hE (wn_some g47_4_7 rfl rfl) rfl (st_build (xs := []) (vs := []) (cs := (b16 (fun _ => 0)).toArray) rfl (by kernel_rfl)) ?_)
          clear hE a; intro a hE
          refine p_cons (s_still p47_4_11 hE (wn_some g47_4_7 rfl rfl) rfl (st_neqA (b := false) eg25 rfl rfl (eqA_flat eqZ_ks (by kernel_rfl) rfl rfl (by simpa using hAZ))) ?_)
          clear hE a; intro a hE
          refine p_cons (s_still p47_4_12 hE (wn_some g47_4_7 rfl rfl) rfl (st_move rfl) ?_)
          clear hE a; intro a hE
          refine p_cons (s_still p47_4_13 hE (wn_some g47_4_12 rfl rfl) rfl (st_fieldAddr Try.underlying157 rfl tS4 rfl rfl) ?_)
          clear hE a; intro a hE
          refine p_cons (s_still p47_4_14 hE (wn_some g47_4_12 rfl rfl) rfl (st_load1 tA4 rfl ((blk_cell B_g24 3).trans rfl)) ?_)
          clear hE a; intro a hE
          refine p_cons (s_still p47_4_15 hE (wn_some g47_4_12 rfl rfl) rfl (st_not rfl rfl) ?_)
          clear hE a; intro a hE
          refine p_cons (s_still p47_4_16 hE (wn_some g47_4_7 rfl rfl) rfl (st_pick rfl rfl) ?_)
          clear hE a; intro a hE
          refine q0 p47_4_17 hE (st_pick rfl rfl) ?_
          clear hE a; intro a hE
          refine q0 p47_4_18 hE (st_move rfl) ?_
          clear hE a; intro a hE
          refine p_cons (s_skip p47_4_19 hE (wn_some g47_4_18 rfl rfl) rfl ?_)
          clear hE a; intro a hE
          refine p_cons (s_skip p47_4_20 hE (wn_some g47_4_18 rfl rfl) rfl ?_)
          clear hE a; intro a hE
          refine p_cons (s_skip p47_4_21 hE (wn_some g47_4_18 rfl rfl) rfl ?_)
          clear hE a; intro a hE
          refine p_cons (s_skip p47_4_22 hE (wn_some g47_4_18 rfl rfl) rfl ?_)
          clear hE a; intro a hE
          refine p_cons (s_skip p47_4_23 hE (wn_some g47_4_18 rfl rfl) rfl ?_)
          clear hE a; intro a hE
          refine p_cons (s_skip p47_4_24 hE (wn_undef g47_4_23 rfl) rfl ?_)
          clear hE a; intro a hE
          refine p_cons (s_skip p47_4_25 hE (wn_undef g47_4_23 rfl) rfl ?_)
          clear hE a; intro a hE
          refine p_cons (s_skip p47_4_26 hE (wn_undef g47_4_23 rfl) rfl ?_)
          clear hE a; intro a hE
          refine p_cons (s_skip p47_4_27 hE (wn_undef g47_4_23 rfl) rfl ?_)
          clear hE a; intro a hE
          refine p_cons (s_skip p47_4_28 hE (wn_some g47_4_18 rfl rfl) rfl ?_)
          clear hE a; intro a hE
          refine q0 p47_4_29 hE (st_pick rfl rfl) ?_
          clear hE a; intro a hE
          refine q0 p47_4_30 hE (st_assign rfl) ?_
          clear hE a; intro a hE
          refine p_nil ?_
          refine x_norm ?_
          refine c_cond (t := true) hE rfl ?_
          refine c_reg R47_5_l ?_
          refine q0 p47_5_0 hE (st_assign rfl) ?_
          clear hE a; intro a hE
          refine p_nil ?_
          refine x_norm ?_
          refine wp_ret ?_
          refine x_retB ?_
          refine x_ret ?_
          refine ret_one (v := Value.int .i64 3) rfl hE (.tmp rfl .nil) ?_
          have ec : chkO (k : Int) (sizesF k).length l f tn = chkF k (sizesF k).length l f tn := by unfold chkO; rw [if_pos ⟨by omega, by omega⟩]; rfl
          exact ⟨by rw [ec]; unfold chkF; rw [if_pos (Or.inr (Or.inl ⟨hAZ, hAD⟩))], K_0⟩
      ·
        refine c_reg R47_4_l ?_
        refine q0 p47_4_0 hE (st_fieldAddr Try.underlying64 rfl tS62 rfl rfl) ?_
        clear hE a; intro a hE
        refine q0 p47_4_1 hE (st_load1 tA62 rfl ((blk_cell B_g1 1).trans rfl)) ?_
        clear hE a; intro a hE
        refine q0 p47_4_2 hE (st_len Try.underlying62 rfl) ?_
        clear hE a; intro a hE
        refine q0 p47_4_3 hE (st_fieldAddr Try.underlying157 rfl tS62 rfl rfl) ?_
        clear hE a; intro a hE
        refine q0 p47_4_4 hE (st_load1 tA62 rfl ((blk_cell B_g24 1).trans rfl)) ?_
        clear hE a; intro a hE
        refine q0 p47_4_5 hE (st_len Try.underlying62 rfl) ?_
        clear hE a; intro a hE
        refine q0 p47_4_6 hE (st_neq (b := true) rfl rfl (by simp; omega)) ?_
        clear hE a; intro a hE
        refine q0 p47_4_7 hE (st_move rfl) ?_
        clear hE a; intro a hE
        refine p_cons (s_skip p47_4_8 hE (wn_some g47_4_7 rfl rfl) rfl ?_)
        clear hE a; intro a hE
        refine p_cons (s_skip p47_4_9 hE (wn_some g47_4_7 rfl rfl) rfl ?_)
        clear hE a; intro a hE
        refine p_cons (s_skip p47_4_10 hE (wn_some g47_4_7 rfl rfl) rfl ?_)
        clear hE a; intro a hE
        refine p_cons (s_skip p47_4_11 hE (wn_some g47_4_7 rfl rfl) rfl ?_)
        clear hE a; intro a hE
        refine p_cons (s_skip p47_4_12 hE (wn_some g47_4_7 rfl rfl) rfl ?_)
        clear hE a; intro a hE
        refine p_cons (s_skip p47_4_13 hE (wn_undef g47_4_12 rfl) rfl ?_)
        clear hE a; intro a hE
        refine p_cons (s_skip p47_4_14 hE (wn_undef g47_4_12 rfl) rfl ?_)
        clear hE a; intro a hE
        refine p_cons (s_skip p47_4_15 hE (wn_undef g47_4_12 rfl) rfl ?_)
        clear hE a; intro a hE
        refine p_cons (s_skip p47_4_16 hE (wn_some g47_4_7 rfl rfl) rfl ?_)
        clear hE a; intro a hE
        refine q0 p47_4_17 hE (st_pick rfl rfl) ?_
        clear hE a; intro a hE
        refine q0 p47_4_18 hE (st_move rfl) ?_
        clear hE a; intro a hE
        refine p_cons (s_skip p47_4_19 hE (wn_some g47_4_18 rfl rfl) rfl ?_)
        clear hE a; intro a hE
        refine p_cons (s_skip p47_4_20 hE (wn_some g47_4_18 rfl rfl) rfl ?_)
        clear hE a; intro a hE
        refine p_cons (s_skip p47_4_21 hE (wn_some g47_4_18 rfl rfl) rfl ?_)
        clear hE a; intro a hE
        refine p_cons (s_skip p47_4_22 hE (wn_some g47_4_18 rfl rfl) rfl ?_)
        clear hE a; intro a hE
        refine p_cons (s_skip p47_4_23 hE (wn_some g47_4_18 rfl rfl) rfl ?_)
        clear hE a; intro a hE
        refine p_cons (s_skip p47_4_24 hE (wn_undef g47_4_23 rfl) rfl ?_)
        clear hE a; intro a hE
        refine p_cons (s_skip p47_4_25 hE (wn_undef g47_4_23 rfl) rfl ?_)
        clear hE a; intro a hE
        refine p_cons (s_skip p47_4_26 hE (wn_undef g47_4_23 rfl) rfl ?_)
        clear hE a; intro a hE
        refine p_cons (s_skip p47_4_27 hE (wn_undef g47_4_23 rfl) rfl ?_)
        clear hE a; intro a hE
        refine p_cons (s_skip p47_4_28 hE (wn_some g47_4_18 rfl rfl) rfl ?_)
        clear hE a; intro a hE
        refine q0 p47_4_29 hE (st_pick rfl rfl) ?_
        clear hE a; intro a hE
        refine q0 p47_4_30 hE (st_assign rfl) ?_
        clear hE a; intro a hE
        refine p_nil ?_
        refine x_norm ?_
        refine c_cond (t := true) hE rfl ?_
        refine c_reg R47_5_l ?_
        refine q0 p47_5_0 hE (st_assign rfl) ?_
        clear hE a; intro a hE
        refine p_nil ?_
        refine x_norm ?_
        refine wp_ret ?_
        refine x_retB ?_
        refine x_ret ?_
        refine ret_one (v := Value.int .i64 3) rfl hE (.tmp rfl .nil) ?_
        have ec : chkO (k : Int) nb l f tn = chkF k nb l f tn := by unfold chkO; rw [if_pos ⟨by omega, by omega⟩]; rfl
        exact ⟨by rw [ec]; unfold chkF; rw [if_pos (Or.inl hL)], K_0⟩
  ·
    refine c_reg R47_1_l ?_
    refine q0 p47_1_0 hE (st_fieldAddr Try.underlying64 rfl tS3 rfl rfl) ?_
    clear hE a; intro a hE
    refine q0 p47_1_1 hE (st_load1 tA3 rfl ((blk_cell B_g1 0).trans rfl)) ?_
    clear hE a; intro a hE
    refine p_cons (s_call (xs := [Operand.tmp 8]) (args := [Value.int .i64 kk]) p47_1_2 hE wn_none rfl rfl Try.func93 cl93 (of_no kk hKN _) ?_)
    rintro e w34 ⟨rfl, hk⟩
    replace B_g1 := kp_blk B_g1 hk (fun h => h)
    replace K_0 := K_0.then_ hk (fun _ h => h.elim)
    refine ⟨_, rfl, ?_⟩
    clear hE a; intro a hE
    refine q0 p47_1_3 hE (st_move rfl) ?_
    clear hE a; intro a hE
    refine q0 p47_1_4 hE (st_extract rfl rfl) ?_
    clear hE a; intro a hE
    refine q0 p47_1_5 hE (st_extract rfl rfl) ?_
    clear hE a; intro a hE
    refine p_cons (s_alloc p47_1_6 hE wn_none rfl tZ157 ?_)
    clear hE a; intro g35 w36 z37 B_g35 hk a hE
    replace B_g35 : w36.heap[g35]? = some (.cells #[Value.string ByteArray.empty, Value.slice none 0 0, Value.int .i64 0, Value.bool false, Value.int .i64 0, Value.int .i64 0] 157 (0, 0)) := B_g35
    have n_g1_g35 : g1 ≠ g35 := ne_new B_g1 z37
    have z_0_g35 := Nat.le_trans K_0.kept.1 z37
    replace B_g1 := kp_blk B_g1 hk (fun h => h)
    replace K_0 := K_0.then_ hk (fun _ h => h.elim)
    clear hk
    refine p_cons (s_store (off := 0) (k := 6) (cs' := #[Value.string ByteArray.empty, Value.slice none 0 0, Value.int .i64 0, Value.bool false, Value.int .i64 0, Value.int .i64 0]) p47_1_7 hE wn_none tS157 rfl rfl rfl rfl B_g35 (Nat.le_of_ble_eq_true rfl) rfl ?_)
    intro w38 B_g35' hk
    replace B_g1 := kp_blk B_g1 hk n_g1_g35
    replace K_0 := K_0.then_ hk (fun k h => by rw [show k = g35 from h]; exact Or.inr z_0_g35)
    replace B_g35 := B_g35'
    clear hk
    refine q0 p47_1_8 hE (st_assign rfl) ?_
    clear hE a; intro a hE
    refine p_nil ?_
    refine x_norm ?_
    refine wp_seq ?_
    refine wp_block ?_
    refine c_reg R47_2_l ?_
    refine q0 p47_2_0 hE (st_move rfl) ?_
    clear hE a; intro a hE
    refine q0 p47_2_1 hE (st_not rfl rfl) ?_
    clear hE a; intro a hE
    refine q0 p47_2_2 hE (st_assign rfl) ?_
    clear hE a; intro a hE
    refine p_nil ?_
    refine x_norm ?_
    refine c_cond (t := true) hE rfl ?_
    refine c_reg R47_3_l ?_
    refine q0 p47_3_0 hE (st_assign rfl) ?_
    clear hE a; intro a hE
    refine p_nil ?_
    refine x_norm ?_
    refine wp_ret ?_
    refine x_retB ?_
    refine x_ret ?_
    refine ret_one (v := Value.int .i64 6) rfl hE (.tmp rfl .nil) ?_
    exact ⟨by unfold chkO; rw [if_neg hKN], K_0⟩
end Go.Proofs.Ytndiddfleidnaaa.Oc
