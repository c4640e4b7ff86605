/- Package option: numbers, Check, kind by kind. -/
import Derived.Test.YtgpclehnomkbmaaOpt
set_option maxRecDepth 100000
set_option linter.unusedVariables false
set_option linter.unusedSimpArgs false
namespace Go.Proofs.Ytgpclehnomkbmaa.Oc
open Go.RowKit Go.Proofs.YtgpclehnomkbmaaW.PrintWords Go.Proofs.Ytgpclehnomkbmaa.Ds Go.Proofs.Ytgpclehnomkbmaa.Op
open Go.Proofs.Ytgpclehnomkbmaa.Pk (Kp fitsF spanF putF digF fits_any put_ok)
theorem fits_yes {k n q : Int} (hk : spanF k = q) (hq : 0 < q) (h : 0 ≤ n ∧ n < q) : fitsF k [n] = true := by
 simp only [fitsF, Bool.and_eq_true, List.all_eq_true, decide_eq_true_eq]
 exact ⟨by omega, fun y hy => by simp at hy; omega⟩
theorem fits_no {k n q : Int} (hk : spanF k = q) (h : ¬ (0 ≤ n ∧ n < q)) : fitsF k [n] = false := by
 cases h2 : fitsF k [n] with
 | false => rfl
 | true =>
  simp only [fitsF, Bool.and_eq_true, List.all_eq_true, decide_eq_true_eq] at h2
  have := h2.2 n (by simp)
  omega
def okJ (SZ : List Int) (ln ze : Int) (l : List Int) (j : Nat) : Prop := fitsF (rd SZ (j : Int)) [rd l (j : Int)] = true ∧ ((j : Int) = ln → rd l (j : Int) ≤ 128) ∧ ((j : Int) = ze → rd l (j : Int) = 0)
def numOK (SZ : List Int) (ln ze : Int) (l : List Int) : Prop := ∀ j, j < SZ.length → okJ SZ ln ze l j
theorem R61_0_l : List.range (regOf Try.f61 0).size = [0, 1] := by kernel_rfl
theorem R61_1_l : List.range (regOf Try.f61 1).size = [0, 1, 2, 3] := by kernel_rfl
theorem R61_2_l : List.range (regOf Try.f61 2).size = [0] := by kernel_rfl
theorem R61_3_l : List.range (regOf Try.f61 3).size = [0, 1, 2, 3, 4] := by kernel_rfl
theorem R61_4_l : List.range (regOf Try.f61 4).size = [0, 1, 2, 3, 4, 5, 6, 7, 8, 9, 10, 11, 12, 13, 14, 15, 16, 17, 18, 19, 20, 21, 22, 23, 24, 25, 26, 27, 28, 29, 30, 31, 32, 33] := by kernel_rfl
theorem R61_5_l : List.range (regOf Try.f61 5).size = [0] := by kernel_rfl
theorem R61_6_l : List.range (regOf Try.f61 6).size = [0, 1] := by kernel_rfl
theorem R61_7_l : List.range (regOf Try.f61 7).size = [0] := by kernel_rfl
theorem body61 : Try.f61.body = some (.seq (.region 0 (regOf Try.f61 0) false) (.seq (.seq (.region 1 (regOf Try.f61 1) false) (.block 0 (.loop (.seq (.region 2 (regOf Try.f61 2) false) (.seq (.cond (Operand.tmp 11) (.skip) (.exit 0)) (.seq (.block 1 (.seq (.region 3 (regOf Try.f61 3) false) (.seq (.region 4 (regOf Try.f61 4) false) (.cond (Operand.tmp 48) (.seq (.region 5 (regOf Try.f61 5) false) (.ret)) (.skip))))) (.region 6 (regOf Try.f61 6) false))))))) (.seq (.region 7 (regOf Try.f61 7) false) (.ret)))) := by kernel_rfl
theorem p61_0_0 : pj (regOf Try.f61 0) 0 = some (some 2, .box 116 (.tmp 0), 0, none) := by kernel_rfl
theorem p61_0_1 : pj (regOf Try.f61 0) 1 = some (some 4, .assign (.const (.int .i64 0)), 24, none) := by kernel_rfl
theorem p61_1_0 : pj (regOf Try.f61 1) 0 = some (some 7, .fieldAddr 116 (.tmp 2) 1, 0, none) := by kernel_rfl
theorem tS42 : (Try.prog.info? 42).map (·.size) = some 1 := by kernel_rfl
theorem p61_1_1 : pj (regOf Try.f61 1) 1 = some (some 8, .load 42 (.tmp 7), 42, none) := by kernel_rfl
theorem tA42 : (Try.prog.underlying 42).map aggD = some false := by kernel_rfl
theorem p61_1_2 : pj (regOf Try.f61 1) 2 = some (some 9, .call { callee := .builtin .len, args := #[.tmp 8], argTypes := #[42] }, 3, none) := by kernel_rfl
theorem p61_1_3 : pj (regOf Try.f61 1) 3 = some (some 10, .move (.const (.int .i64 0)), 3, none) := by kernel_rfl
theorem p61_2_0 : pj (regOf Try.f61 2) 0 = some (some 11, .binOp .lss 3 (.tmp 10) (.tmp 9) 3, 0, none) := by kernel_rfl
theorem p61_3_0 : pj (regOf Try.f61 3) 0 = some (some 12, .move (.tmp 10), 3, none) := by kernel_rfl
theorem p61_3_1 : pj (regOf Try.f61 3) 1 = some (some 13, .indexAddr 42 (.tmp 8) (.tmp 10), 0, none) := by kernel_rfl
theorem tS3 : (Try.prog.info? 3).map (·.size) = some 1 := by kernel_rfl
theorem p61_3_2 : pj (regOf Try.f61 3) 2 = some (some 14, .load 3 (.tmp 13), 3, none) := by kernel_rfl
theorem tA3 : (Try.prog.underlying 3).map aggD = some false := by kernel_rfl
theorem p61_3_3 : pj (regOf Try.f61 3) 3 = some (some 5, .assign (.tmp 12), 3, none) := by kernel_rfl
theorem p61_3_4 : pj (regOf Try.f61 3) 4 = some (some 6, .assign (.tmp 14), 3, none) := by kernel_rfl
theorem p61_4_0 : pj (regOf Try.f61 4) 0 = some (some 15, .move (.tmp 6), 3, none) := by kernel_rfl
theorem p61_4_1 : pj (regOf Try.f61 4) 1 = some (some 16, .move (.tmp 1), 42, none) := by kernel_rfl
theorem p61_4_2 : pj (regOf Try.f61 4) 2 = some (some 17, .move (.tmp 5), 3, none) := by kernel_rfl
theorem p61_4_3 : pj (regOf Try.f61 4) 3 = some (some 18, .indexAddr 42 (.tmp 16) (.tmp 17), 0, none) := by kernel_rfl
theorem p61_4_4 : pj (regOf Try.f61 4) 4 = some (some 19, .load 3 (.tmp 18), 3, none) := by kernel_rfl
theorem p61_4_5 : pj (regOf Try.f61 4) 5 = some (some 20, .buildSlice 42 1 #[(0, .tmp 19)], 42, none) := by kernel_rfl
theorem p61_4_6 : pj (regOf Try.f61 4) 6 = some (some 21, .call { callee := .value (.func 83), args := #[.tmp 15, .tmp 20], argTypes := #[3, 42] }, 4, none) := by kernel_rfl
theorem cl83 : callable Try.f83 = true := by kernel_rfl
theorem p61_4_7 : pj (regOf Try.f61 4) 7 = some (some 22, .unOp .not 4 (.tmp 21), 4, none) := by kernel_rfl
theorem p61_4_8 : pj (regOf Try.f61 4) 8 = some (some 23, .move (.tmp 22), 4, none) := by kernel_rfl
theorem p61_4_9 : pj (regOf Try.f61 4) 9 = some (some 24, .move (.tmp 5), 3, some (8, false)) := by kernel_rfl
theorem g61_4_8 : dstOf (regOf Try.f61 4) 8 = some 23 := by kernel_rfl
theorem p61_4_10 : pj (regOf Try.f61 4) 10 = some (some 25, .fieldAddr 116 (.tmp 2) 4, 0, some (8, false)) := by kernel_rfl
theorem p61_4_11 : pj (regOf Try.f61 4) 11 = some (some 26, .load 3 (.tmp 25), 3, some (8, false)) := by kernel_rfl
theorem p61_4_12 : pj (regOf Try.f61 4) 12 = some (some 27, .binOp .eql 3 (.tmp 24) (.tmp 26) 3, 4, some (8, false)) := by kernel_rfl
theorem p61_4_13 : pj (regOf Try.f61 4) 13 = some (some 28, .move (.tmp 27), 4, some (8, false)) := by kernel_rfl
theorem p61_4_14 : pj (regOf Try.f61 4) 14 = some (some 29, .move (.tmp 1), 42, some (13, true)) := by kernel_rfl
theorem g61_4_13 : dstOf (regOf Try.f61 4) 13 = some 28 := by kernel_rfl
theorem p61_4_15 : pj (regOf Try.f61 4) 15 = some (some 30, .move (.tmp 5), 3, some (13, true)) := by kernel_rfl
theorem p61_4_16 : pj (regOf Try.f61 4) 16 = some (some 31, .indexAddr 42 (.tmp 29) (.tmp 30), 0, some (13, true)) := by kernel_rfl
theorem p61_4_17 : pj (regOf Try.f61 4) 17 = some (some 32, .load 3 (.tmp 31), 3, some (13, true)) := by kernel_rfl
theorem p61_4_18 : pj (regOf Try.f61 4) 18 = some (some 33, .binOp .gtr 3 (.tmp 32) (.const (.int .i64 128)) 3, 4, some (13, true)) := by kernel_rfl
theorem p61_4_19 : pj (regOf Try.f61 4) 19 = some (some 34, .pick (.tmp 28) (.tmp 33) (.const (.bool false)), 4, some (8, false)) := by kernel_rfl
theorem p61_4_20 : pj (regOf Try.f61 4) 20 = some (some 35, .pick (.tmp 23) (.const (.bool true)) (.tmp 34), 4, none) := by kernel_rfl
theorem p61_4_21 : pj (regOf Try.f61 4) 21 = some (some 36, .move (.tmp 35), 4, none) := by kernel_rfl
theorem p61_4_22 : pj (regOf Try.f61 4) 22 = some (some 37, .move (.tmp 5), 3, some (21, false)) := by kernel_rfl
theorem g61_4_21 : dstOf (regOf Try.f61 4) 21 = some 36 := by kernel_rfl
theorem p61_4_23 : pj (regOf Try.f61 4) 23 = some (some 38, .fieldAddr 116 (.tmp 2) 5, 0, some (21, false)) := by kernel_rfl
theorem p61_4_24 : pj (regOf Try.f61 4) 24 = some (some 39, .load 3 (.tmp 38), 3, some (21, false)) := by kernel_rfl
theorem p61_4_25 : pj (regOf Try.f61 4) 25 = some (some 40, .binOp .eql 3 (.tmp 37) (.tmp 39) 3, 4, some (21, false)) := by kernel_rfl
theorem p61_4_26 : pj (regOf Try.f61 4) 26 = some (some 41, .move (.tmp 40), 4, some (21, false)) := by kernel_rfl
theorem p61_4_27 : pj (regOf Try.f61 4) 27 = some (some 42, .move (.tmp 1), 42, some (26, true)) := by kernel_rfl
theorem g61_4_26 : dstOf (regOf Try.f61 4) 26 = some 41 := by kernel_rfl
theorem p61_4_28 : pj (regOf Try.f61 4) 28 = some (some 43, .move (.tmp 5), 3, some (26, true)) := by kernel_rfl
theorem p61_4_29 : pj (regOf Try.f61 4) 29 = some (some 44, .indexAddr 42 (.tmp 42) (.tmp 43), 0, some (26, true)) := by kernel_rfl
theorem p61_4_30 : pj (regOf Try.f61 4) 30 = some (some 45, .load 3 (.tmp 44), 3, some (26, true)) := by kernel_rfl
theorem p61_4_31 : pj (regOf Try.f61 4) 31 = some (some 46, .binOp .neq 3 (.tmp 45) (.const (.int .i64 0)) 3, 4, some (26, true)) := by kernel_rfl
theorem p61_4_32 : pj (regOf Try.f61 4) 32 = some (some 47, .pick (.tmp 41) (.tmp 46) (.const (.bool false)), 4, some (21, false)) := by kernel_rfl
theorem p61_4_33 : pj (regOf Try.f61 4) 33 = some (some 48, .pick (.tmp 36) (.const (.bool true)) (.tmp 47), 4, none) := by kernel_rfl
theorem p61_5_0 : pj (regOf Try.f61 5) 0 = some (some 4, .assign (.const (.int .i64 1)), 24, none) := by kernel_rfl
theorem p61_6_0 : pj (regOf Try.f61 6) 0 = some (some 49, .binOp .add 3 (.tmp 10) (.const (.int .i64 1)) 3, 3, none) := by kernel_rfl
theorem p61_6_1 : pj (regOf Try.f61 6) 1 = some (some 10, .move (.tmp 49), 3, none) := by kernel_rfl
theorem p61_7_0 : pj (regOf Try.f61 7) 0 = some (some 4, .assign (.const (.int .i64 0)), 24, none) := by kernel_rfl
set_option maxHeartbeats 4000000 in
theorem num_R {R : Ending → World → Prop} (WD : ByteArray) (A B : Option Addr) (c cb nb : Nat) (be ln ze : Int) (ad : Bool) (SZ l : List Int) (hln : nb = SZ.length) (hSZ : SZ.length ≤ 1000) (w : World) (F_A : ∀ W', Kp w W' (fun _ => False) → Kd.C (Kd.int .i64) W' A SZ.length SZ) (F_B : ∀ W', Kp w W' (fun _ => False) → Kd.C (Kd.int .i64) W' B nb l) (h0 : numOK SZ ln ze l → ∀ w', Kp w w' (fun _ => False) → R (.returned (.int .i64 0)) w') (h1 : ¬ numOK SZ ln ze l → ∀ w', Kp w w' (fun _ => False) → R (.returned (.int .i64 1)) w') : Calls Try.prog 61 #[Value.agg #[Value.string WD, Value.slice A SZ.length c, Value.int .i64 be, Value.bool ad, Value.int .i64 ln, Value.int .i64 ze], .slice B nb cb] w R := by
 have K_0 := Kp.refl w (fun _ => False)
 subst hln
 refine enter (args := [Value.agg #[Value.string WD, Value.slice A SZ.length c, Value.int .i64 be, Value.bool ad, Value.int .i64 ln, Value.int .i64 ze], Value.slice B SZ.length cb]) (n := 50) Try.func61 body61 rfl rfl rfl ?_
 intro a hE
 refine c_reg R61_0_l ?_
 refine p_cons (s_box p61_0_0 hE wn_none rfl rfl ?_)
 clear hE a; intro g1 w2 z3 B_g1 hk a hE
 replace B_g1 : w2.heap[g1]? = some (.cells #[Value.string WD, Value.slice A SZ.length c, Value.int .i64 be, Value.bool ad, Value.int .i64 ln, Value.int .i64 ze] 116 (0, 0)) := B_g1
 have z_0_g1 := Nat.le_trans K_0.kept.1 z3
 replace K_0 := K_0.then_ hk (fun _ h => h.elim)
 clear hk
 refine q0 p61_0_1 hE (st_assign rfl) ?_; clear hE a; intro a hE
 refine p_nil (x_norm (wp_seq (c_reg R61_1_l ?_)))
 refine q0 p61_1_0 hE (st_fieldAddr Try.underlying116 rfl tS42 rfl rfl) ?_; clear hE a; intro a hE
 refine q0 p61_1_1 hE (st_load1 tA42 rfl ((blk_cell B_g1 1).trans rfl)) ?_; clear hE a; intro a hE
 refine q0 p61_1_2 hE (st_len Try.underlying42 rfl) ?_; clear hE a; intro a hE
 refine q0 p61_1_3 hE (st_move rfl) ?_; clear hE a; intro a hE
 refine p_nil (x_norm (wp_block ?_))
 refine c_loop (α := Nat) (fun k a W => En 50 a [(0, Value.agg #[Value.string WD, Value.slice A SZ.length c, Value.int .i64 be, Value.bool ad, Value.int .i64 ln, Value.int .i64 ze]), (1, Value.slice B SZ.length cb), (2, Value.pointer (some ⟨g1, 0, none⟩)), (8, Value.slice A SZ.length c), (9, Value.int .i64 (SZ.length : Int)), (10, Value.int .i64 (k : Int))] ∧ k ≤ SZ.length ∧ (∀ j, j < k → okJ SZ ln ze l j) ∧ W.heap[g1]? = some (.cells #[Value.string WD, Value.slice A SZ.length c, Value.int .i64 be, Value.bool ad, Value.int .i64 ln, Value.int .i64 ze] 116 (0, 0)) ∧ Kp w W (fun _ => False)) (fun k => SZ.length - k) (0) ?_ ?_
 ·
  exact ⟨En.sub hE ⟨rfl, rfl, rfl, rfl, rfl, rfl, trivial⟩, Nat.zero_le _, fun j hj => absurd hj (Nat.not_lt_zero j), B_g1, K_0⟩
 ·
  clear hE a
  rintro k a w4 ⟨hE, hk9, hall, B_g1, K_0⟩
  refine c_reg R61_2_l ?_
  rcases Decidable.em ((k : Int) < (SZ.length : Int)) with hc5 | hc5
  ·
   refine p_cons (s_still (v := Value.bool true) p61_2_0 hE wn_none rfl (st_lss rfl rfl (decide_eq_true hc5)) ?_); clear hE a; intro a hE
   refine p_nil (x_norm (wp_seq ?_))
   refine c_cond (t := true) hE rfl ?_
   refine wp_skip (x_norm (wp_seq (wp_block (c_reg R61_3_l ?_))))
   refine q0 p61_3_0 hE (st_move rfl) ?_; clear hE a; intro a hE
   refine q0 p61_3_1 hE (st_indexAddrC (i := k) Try.underlying42 tS3 (F_A _ K_0) rfl rfl (by omega)) ?_; clear hE a; intro a hE
   refine q0 (v := Value.int .i64 (rd SZ (k : Int))) p61_3_2 hE (st_loadC (i := k) tA3 (F_A _ K_0) (by omega) rfl) ?_; clear hE a; intro a hE
   refine q0 p61_3_3 hE (st_assign rfl) ?_; clear hE a; intro a hE
   refine q0 p61_3_4 hE (st_assign rfl) ?_; clear hE a; intro a hE
   refine p_nil (x_norm (c_reg R61_4_l ?_))
   refine q0 p61_4_0 hE (st_move rfl) ?_; clear hE a; intro a hE
   refine q0 p61_4_1 hE (st_move rfl) ?_; clear hE a; intro a hE
   refine q0 p61_4_2 hE (st_move rfl) ?_; clear hE a; intro a hE
   refine q0 p61_4_3 hE (st_indexAddrC (i := k) Try.underlying42 tS3 (F_B _ K_0) rfl rfl (by omega)) ?_; clear hE a; intro a hE
   refine q0 (v := Value.int .i64 (rd l (k : Int))) p61_4_4 hE (st_loadC (i := k) tA3 (F_B _ K_0) (by omega) rfl) ?_; clear hE a; intro a hE
   refine p_cons (s_row (xs := [(0, Operand.tmp 19)]) (vs := [(0, Value.int .i64 (rd l (k : Int)))]) (cs := #[Value.int .i64 (rd l (k : Int))]) p61_4_5 hE wn_none rfl Try.underlying42 rfl (by kernel_rfl) ?_)
   clear hE a; intro g6 w7 z8 B_g6 hk a hE
   have n_g1_g6 : g1 ≠ g6 := ne_new B_g1 z8
   have z_0_g6 := Nat.le_trans K_0.kept.1 z8
   replace B_g1 := kp_blk B_g1 hk (fun h => h)
   replace K_0 := K_0.then_ hk (fun _ h => h.elim)
   clear hk
   refine p_cons (s_call (xs := [Operand.tmp 15, Operand.tmp 20]) (args := [Value.int .i64 (rd SZ (k : Int)), Value.slice (some ⟨g6, 0, none⟩) 1 1]) p61_4_6 hE wn_none rfl rfl Try.func83 cl83 (fits_any (some ⟨g6, 0, none⟩) 1 (rd SZ (k : Int)) [(rd l (k : Int))] _ rfl _ (C_blk (k := .i64) (l := [(rd l (k : Int))]) (off := 0) B_g6 ⟨rfl, Nat.le_of_ble_eq_true rfl⟩ rfl) (Nat.le_of_ble_eq_true rfl)) ?_)
   rintro e w9 ⟨rfl, hw⟩
   have hk := kp_eq hw (fun _ => False)
   replace B_g1 := kp_blk B_g1 hk (fun h => h)
   replace B_g6 := kp_blk B_g6 hk (fun h => h)
   replace K_0 := K_0.then_ hk (fun _ h => h.elim)
   refine ⟨_, rfl, ?_⟩; clear hE a; intro a hE
   refine q0 p61_4_7 hE (st_not rfl rfl) ?_; clear hE a; intro a hE
   refine q0 p61_4_8 hE (st_move rfl) ?_; clear hE a; intro a hE
   rcases Bool.eq_false_or_eq_true (fitsF (rd SZ (k : Int)) [rd l (k : Int)]) with hb10 | hb10
   ·
    rw [hb10] at hE
    refine p_cons (s_still p61_4_9 hE (wn_some g61_4_8 rfl rfl) rfl (st_move rfl) ?_); clear hE a; intro a hE
    refine p_cons (s_still p61_4_10 hE (wn_some g61_4_8 rfl rfl) rfl (st_fieldAddr Try.underlying116 rfl tS3 rfl rfl) ?_); clear hE a; intro a hE
    refine p_cons (s_still p61_4_11 hE (wn_some g61_4_8 rfl rfl) rfl (st_load1 tA3 rfl ((blk_cell B_g1 4).trans rfl)) ?_); clear hE a; intro a hE
    rcases Decidable.em ((k : Int) = ln) with hc11 | hc11
    ·
     refine p_cons (s_still (v := Value.bool true) p61_4_12 hE (wn_some g61_4_8 rfl rfl) rfl (st_eql rfl rfl (decide_eq_true hc11)) ?_); clear hE a; intro a hE
     refine p_cons (s_still p61_4_13 hE (wn_some g61_4_8 rfl rfl) rfl (st_move rfl) ?_); clear hE a; intro a hE
     refine p_cons (s_still p61_4_14 hE (wn_some g61_4_13 rfl rfl) rfl (st_move rfl) ?_); clear hE a; intro a hE
     refine p_cons (s_still p61_4_15 hE (wn_some g61_4_13 rfl rfl) rfl (st_move rfl) ?_); clear hE a; intro a hE
     refine p_cons (s_still p61_4_16 hE (wn_some g61_4_13 rfl rfl) rfl (st_indexAddrC (i := k) Try.underlying42 tS3 (F_B _ K_0) rfl rfl (by omega)) ?_); clear hE a; intro a hE
     refine p_cons (s_still (v := Value.int .i64 (rd l (k : Int))) p61_4_17 hE (wn_some g61_4_13 rfl rfl) rfl (st_loadC (i := k) tA3 (F_B _ K_0) (by omega) rfl) ?_); clear hE a; intro a hE
     rcases Decidable.em (128 < (rd l (k : Int))) with hc12 | hc12
     ·
      refine p_cons (s_still (v := Value.bool true) p61_4_18 hE (wn_some g61_4_13 rfl rfl) rfl (st_gtr rfl rfl (decide_eq_true hc12)) ?_); clear hE a; intro a hE
      refine p_cons (s_still p61_4_19 hE (wn_some g61_4_8 rfl rfl) rfl (st_pick rfl rfl) ?_); clear hE a; intro a hE
      refine q0 p61_4_20 hE (st_pick rfl rfl) ?_; clear hE a; intro a hE
      refine q0 p61_4_21 hE (st_move rfl) ?_; clear hE a; intro a hE
      refine p_cons (s_skip p61_4_22 hE (wn_some g61_4_21 rfl rfl) rfl ?_); clear hE a; intro a hE
      refine p_cons (s_skip p61_4_23 hE (wn_some g61_4_21 rfl rfl) rfl ?_); clear hE a; intro a hE
      refine p_cons (s_skip p61_4_24 hE (wn_some g61_4_21 rfl rfl) rfl ?_); clear hE a; intro a hE
      refine p_cons (s_skip p61_4_25 hE (wn_some g61_4_21 rfl rfl) rfl ?_); clear hE a; intro a hE
      refine p_cons (s_skip p61_4_26 hE (wn_some g61_4_21 rfl rfl) rfl ?_); clear hE a; intro a hE
      refine p_cons (s_skip p61_4_27 hE (wn_undef g61_4_26 rfl) rfl ?_); clear hE a; intro a hE
      refine p_cons (s_skip p61_4_28 hE (wn_undef g61_4_26 rfl) rfl ?_); clear hE a; intro a hE
      refine p_cons (s_skip p61_4_29 hE (wn_undef g61_4_26 rfl) rfl ?_); clear hE a; intro a hE
      refine p_cons (s_skip p61_4_30 hE (wn_undef g61_4_26 rfl) rfl ?_); clear hE a; intro a hE
      refine p_cons (s_skip p61_4_31 hE (wn_undef g61_4_26 rfl) rfl ?_); clear hE a; intro a hE
      refine p_cons (s_skip p61_4_32 hE (wn_some g61_4_21 rfl rfl) rfl ?_); clear hE a; intro a hE
      refine q0 p61_4_33 hE (st_pick rfl rfl) ?_; clear hE a; intro a hE
      refine p_nil (x_norm ?_)
      refine c_cond (t := true) hE rfl ?_
      refine c_reg R61_5_l ?_
      refine q0 p61_5_0 hE (st_assign rfl) ?_; clear hE a; intro a hE
      refine p_nil (x_norm (wp_ret (x_retB (x_ret (x_ret (x_retB (x_ret ?_)))))))
      refine ret_one (v := Value.int .i64 1) rfl hE (.tmp rfl .nil) ?_
      exact h1 (fun H => by have h9 := H k (by omega); have e1 := h9.1; have e2 := h9.2.1; have e3 := h9.2.2; have := e2 hc11; omega) _ K_0
     ·
      refine p_cons (s_still (v := Value.bool false) p61_4_18 hE (wn_some g61_4_13 rfl rfl) rfl (st_gtr rfl rfl (decide_eq_false hc12)) ?_); clear hE a; intro a hE
      refine p_cons (s_still p61_4_19 hE (wn_some g61_4_8 rfl rfl) rfl (st_pick rfl rfl) ?_); clear hE a; intro a hE
      refine q0 p61_4_20 hE (st_pick rfl rfl) ?_; clear hE a; intro a hE
      refine q0 p61_4_21 hE (st_move rfl) ?_; clear hE a; intro a hE
      refine p_cons (s_still p61_4_22 hE (wn_some g61_4_21 rfl rfl) rfl (st_move rfl) ?_); clear hE a; intro a hE
      refine p_cons (s_still p61_4_23 hE (wn_some g61_4_21 rfl rfl) rfl (st_fieldAddr Try.underlying116 rfl tS3 rfl rfl) ?_); clear hE a; intro a hE
      refine p_cons (s_still p61_4_24 hE (wn_some g61_4_21 rfl rfl) rfl (st_load1 tA3 rfl ((blk_cell B_g1 5).trans rfl)) ?_); clear hE a; intro a hE
      rcases Decidable.em ((k : Int) = ze) with hc13 | hc13
      ·
       refine p_cons (s_still (v := Value.bool true) p61_4_25 hE (wn_some g61_4_21 rfl rfl) rfl (st_eql rfl rfl (decide_eq_true hc13)) ?_); clear hE a; intro a hE
       refine p_cons (s_still p61_4_26 hE (wn_some g61_4_21 rfl rfl) rfl (st_move rfl) ?_); clear hE a; intro a hE
       refine p_cons (s_still p61_4_27 hE (wn_some g61_4_26 rfl rfl) rfl (st_move rfl) ?_); clear hE a; intro a hE
       refine p_cons (s_still p61_4_28 hE (wn_some g61_4_26 rfl rfl) rfl (st_move rfl) ?_); clear hE a; intro a hE
       refine p_cons (s_still p61_4_29 hE (wn_some g61_4_26 rfl rfl) rfl (st_indexAddrC (i := k) Try.underlying42 tS3 (F_B _ K_0) rfl rfl (by omega)) ?_); clear hE a; intro a hE
       refine p_cons (s_still (v := Value.int .i64 (rd l (k : Int))) p61_4_30 hE (wn_some g61_4_26 rfl rfl) rfl (st_loadC (i := k) tA3 (F_B _ K_0) (by omega) rfl) ?_); clear hE a; intro a hE
       rcases Decidable.em ((rd l (k : Int)) = 0) with hc14 | hc14
       ·
        refine p_cons (s_still (v := Value.bool false) p61_4_31 hE (wn_some g61_4_26 rfl rfl) rfl (st_neq rfl rfl (by rw [decide_eq_true hc14]; rfl)) ?_); clear hE a; intro a hE
        refine p_cons (s_still p61_4_32 hE (wn_some g61_4_21 rfl rfl) rfl (st_pick rfl rfl) ?_); clear hE a; intro a hE
        refine q0 p61_4_33 hE (st_pick rfl rfl) ?_; clear hE a; intro a hE
        refine p_nil (x_norm ?_)
        refine c_cond (t := false) hE rfl ?_
        refine wp_skip (x_normB (x_norm (c_regL R61_6_l ?_)))
        refine q0 p61_6_0 hE (st_add (z := (k : Int) + 1) rfl rfl (wr_i64 _ (by omega) (by omega))) ?_; clear hE a; intro a hE
        refine q0 p61_6_1 hE (st_move rfl) ?_; clear hE a; intro a hE
        refine p_nil (x_norm ?_)
        have hok9 : okJ SZ ln ze l k := ⟨hb10, fun h => by omega, fun h => hc14⟩
        exact ⟨k + 1, by omega, En.sub hE ⟨rfl, rfl, rfl, rfl, rfl, rfl, trivial⟩, by omega, fun j hj => by rcases Nat.lt_succ_iff_lt_or_eq.1 hj with h | h; exact hall j h; rw [h]; exact hok9, B_g1, K_0⟩
       ·
        refine p_cons (s_still (v := Value.bool true) p61_4_31 hE (wn_some g61_4_26 rfl rfl) rfl (st_neq rfl rfl (by rw [decide_eq_false hc14]; rfl)) ?_); clear hE a; intro a hE
        refine p_cons (s_still p61_4_32 hE (wn_some g61_4_21 rfl rfl) rfl (st_pick rfl rfl) ?_); clear hE a; intro a hE
        refine q0 p61_4_33 hE (st_pick rfl rfl) ?_; clear hE a; intro a hE
        refine p_nil (x_norm ?_)
        refine c_cond (t := true) hE rfl ?_
        refine c_reg R61_5_l ?_
        refine q0 p61_5_0 hE (st_assign rfl) ?_; clear hE a; intro a hE
        refine p_nil (x_norm (wp_ret (x_retB (x_ret (x_ret (x_retB (x_ret ?_)))))))
        refine ret_one (v := Value.int .i64 1) rfl hE (.tmp rfl .nil) ?_
        exact h1 (fun H => by have h9 := H k (by omega); have e1 := h9.1; have e2 := h9.2.1; have e3 := h9.2.2; exact hc14 (e3 hc13)) _ K_0
      ·
       refine p_cons (s_still (v := Value.bool false) p61_4_25 hE (wn_some g61_4_21 rfl rfl) rfl (st_eql rfl rfl (decide_eq_false hc13)) ?_); clear hE a; intro a hE
       refine p_cons (s_still p61_4_26 hE (wn_some g61_4_21 rfl rfl) rfl (st_move rfl) ?_); clear hE a; intro a hE
       refine p_cons (s_skip p61_4_27 hE (wn_some g61_4_26 rfl rfl) rfl ?_); clear hE a; intro a hE
       refine p_cons (s_skip p61_4_28 hE (wn_some g61_4_26 rfl rfl) rfl ?_); clear hE a; intro a hE
       refine p_cons (s_skip p61_4_29 hE (wn_some g61_4_26 rfl rfl) rfl ?_); clear hE a; intro a hE
       refine p_cons (s_skip p61_4_30 hE (wn_some g61_4_26 rfl rfl) rfl ?_); clear hE a; intro a hE
       refine p_cons (s_skip p61_4_31 hE (wn_some g61_4_26 rfl rfl) rfl ?_); clear hE a; intro a hE
       refine p_cons (s_still p61_4_32 hE (wn_some g61_4_21 rfl rfl) rfl (st_pick rfl rfl) ?_); clear hE a; intro a hE
       refine q0 p61_4_33 hE (st_pick rfl rfl) ?_; clear hE a; intro a hE
       refine p_nil (x_norm ?_)
       refine c_cond (t := false) hE rfl ?_
       refine wp_skip (x_normB (x_norm (c_regL R61_6_l ?_)))
       refine q0 p61_6_0 hE (st_add (z := (k : Int) + 1) rfl rfl (wr_i64 _ (by omega) (by omega))) ?_; clear hE a; intro a hE
       refine q0 p61_6_1 hE (st_move rfl) ?_; clear hE a; intro a hE
       refine p_nil (x_norm ?_)
       have hok9 : okJ SZ ln ze l k := ⟨hb10, fun h => by omega, fun h => absurd h hc13⟩
       exact ⟨k + 1, by omega, En.sub hE ⟨rfl, rfl, rfl, rfl, rfl, rfl, trivial⟩, by omega, fun j hj => by rcases Nat.lt_succ_iff_lt_or_eq.1 hj with h | h; exact hall j h; rw [h]; exact hok9, B_g1, K_0⟩
    ·
     refine p_cons (s_still (v := Value.bool false) p61_4_12 hE (wn_some g61_4_8 rfl rfl) rfl (st_eql rfl rfl (decide_eq_false hc11)) ?_); clear hE a; intro a hE
     refine p_cons (s_still p61_4_13 hE (wn_some g61_4_8 rfl rfl) rfl (st_move rfl) ?_); clear hE a; intro a hE
     refine p_cons (s_skip p61_4_14 hE (wn_some g61_4_13 rfl rfl) rfl ?_); clear hE a; intro a hE
     refine p_cons (s_skip p61_4_15 hE (wn_some g61_4_13 rfl rfl) rfl ?_); clear hE a; intro a hE
     refine p_cons (s_skip p61_4_16 hE (wn_some g61_4_13 rfl rfl) rfl ?_); clear hE a; intro a hE
     refine p_cons (s_skip p61_4_17 hE (wn_some g61_4_13 rfl rfl) rfl ?_); clear hE a; intro a hE
     refine p_cons (s_skip p61_4_18 hE (wn_some g61_4_13 rfl rfl) rfl ?_); clear hE a; intro a hE
     refine p_cons (s_still p61_4_19 hE (wn_some g61_4_8 rfl rfl) rfl (st_pick rfl rfl) ?_); clear hE a; intro a hE
     refine q0 p61_4_20 hE (st_pick rfl rfl) ?_; clear hE a; intro a hE
     refine q0 p61_4_21 hE (st_move rfl) ?_; clear hE a; intro a hE
     refine p_cons (s_still p61_4_22 hE (wn_some g61_4_21 rfl rfl) rfl (st_move rfl) ?_); clear hE a; intro a hE
     refine p_cons (s_still p61_4_23 hE (wn_some g61_4_21 rfl rfl) rfl (st_fieldAddr Try.underlying116 rfl tS3 rfl rfl) ?_); clear hE a; intro a hE
     refine p_cons (s_still p61_4_24 hE (wn_some g61_4_21 rfl rfl) rfl (st_load1 tA3 rfl ((blk_cell B_g1 5).trans rfl)) ?_); clear hE a; intro a hE
     rcases Decidable.em ((k : Int) = ze) with hc15 | hc15
     ·
      refine p_cons (s_still (v := Value.bool true) p61_4_25 hE (wn_some g61_4_21 rfl rfl) rfl (st_eql rfl rfl (decide_eq_true hc15)) ?_); clear hE a; intro a hE
      refine p_cons (s_still p61_4_26 hE (wn_some g61_4_21 rfl rfl) rfl (st_move rfl) ?_); clear hE a; intro a hE
      refine p_cons (s_still p61_4_27 hE (wn_some g61_4_26 rfl rfl) rfl (st_move rfl) ?_); clear hE a; intro a hE
      refine p_cons (s_still p61_4_28 hE (wn_some g61_4_26 rfl rfl) rfl (st_move rfl) ?_); clear hE a; intro a hE
      refine p_cons (s_still p61_4_29 hE (wn_some g61_4_26 rfl rfl) rfl (st_indexAddrC (i := k) Try.underlying42 tS3 (F_B _ K_0) rfl rfl (by omega)) ?_); clear hE a; intro a hE
      refine p_cons (s_still (v := Value.int .i64 (rd l (k : Int))) p61_4_30 hE (wn_some g61_4_26 rfl rfl) rfl (st_loadC (i := k) tA3 (F_B _ K_0) (by omega) rfl) ?_); clear hE a; intro a hE
      rcases Decidable.em ((rd l (k : Int)) = 0) with hc16 | hc16
      ·
       refine p_cons (s_still (v := Value.bool false) p61_4_31 hE (wn_some g61_4_26 rfl rfl) rfl (st_neq rfl rfl (by rw [decide_eq_true hc16]; rfl)) ?_); clear hE a; intro a hE
       refine p_cons (s_still p61_4_32 hE (wn_some g61_4_21 rfl rfl) rfl (st_pick rfl rfl) ?_); clear hE a; intro a hE
       refine q0 p61_4_33 hE (st_pick rfl rfl) ?_; clear hE a; intro a hE
       refine p_nil (x_norm ?_)
       refine c_cond (t := false) hE rfl ?_
       refine wp_skip (x_normB (x_norm (c_regL R61_6_l ?_)))
       refine q0 p61_6_0 hE (st_add (z := (k : Int) + 1) rfl rfl (wr_i64 _ (by omega) (by omega))) ?_; clear hE a; intro a hE
       refine q0 p61_6_1 hE (st_move rfl) ?_; clear hE a; intro a hE
       refine p_nil (x_norm ?_)
       have hok9 : okJ SZ ln ze l k := ⟨hb10, fun h => absurd h hc11, fun h => hc16⟩
       exact ⟨k + 1, by omega, En.sub hE ⟨rfl, rfl, rfl, rfl, rfl, rfl, trivial⟩, by omega, fun j hj => by rcases Nat.lt_succ_iff_lt_or_eq.1 hj with h | h; exact hall j h; rw [h]; exact hok9, B_g1, K_0⟩
      ·
       refine p_cons (s_still (v := Value.bool true) p61_4_31 hE (wn_some g61_4_26 rfl rfl) rfl (st_neq rfl rfl (by rw [decide_eq_false hc16]; rfl)) ?_); clear hE a; intro a hE
       refine p_cons (s_still p61_4_32 hE (wn_some g61_4_21 rfl rfl) rfl (st_pick rfl rfl) ?_); clear hE a; intro a hE
       refine q0 p61_4_33 hE (st_pick rfl rfl) ?_; clear hE a; intro a hE
       refine p_nil (x_norm ?_)
       refine c_cond (t := true) hE rfl ?_
       refine c_reg R61_5_l ?_
       refine q0 p61_5_0 hE (st_assign rfl) ?_; clear hE a; intro a hE
       refine p_nil (x_norm (wp_ret (x_retB (x_ret (x_ret (x_retB (x_ret ?_)))))))
       refine ret_one (v := Value.int .i64 1) rfl hE (.tmp rfl .nil) ?_
       exact h1 (fun H => by have h9 := H k (by omega); have e1 := h9.1; have e2 := h9.2.1; have e3 := h9.2.2; exact hc16 (e3 hc15)) _ K_0
     ·
      refine p_cons (s_still (v := Value.bool false) p61_4_25 hE (wn_some g61_4_21 rfl rfl) rfl (st_eql rfl rfl (decide_eq_false hc15)) ?_); clear hE a; intro a hE
      refine p_cons (s_still p61_4_26 hE (wn_some g61_4_21 rfl rfl) rfl (st_move rfl) ?_); clear hE a; intro a hE
      refine p_cons (s_skip p61_4_27 hE (wn_some g61_4_26 rfl rfl) rfl ?_); clear hE a; intro a hE
      refine p_cons (s_skip p61_4_28 hE (wn_some g61_4_26 rfl rfl) rfl ?_); clear hE a; intro a hE
      refine p_cons (s_skip p61_4_29 hE (wn_some g61_4_26 rfl rfl) rfl ?_); clear hE a; intro a hE
      refine p_cons (s_skip p61_4_30 hE (wn_some g61_4_26 rfl rfl) rfl ?_); clear hE a; intro a hE
      refine p_cons (s_skip p61_4_31 hE (wn_some g61_4_26 rfl rfl) rfl ?_); clear hE a; intro a hE
      refine p_cons (s_still p61_4_32 hE (wn_some g61_4_21 rfl rfl) rfl (st_pick rfl rfl) ?_); clear hE a; intro a hE
      refine q0 p61_4_33 hE (st_pick rfl rfl) ?_; clear hE a; intro a hE
      refine p_nil (x_norm ?_)
      refine c_cond (t := false) hE rfl ?_
      refine wp_skip (x_normB (x_norm (c_regL R61_6_l ?_)))
      refine q0 p61_6_0 hE (st_add (z := (k : Int) + 1) rfl rfl (wr_i64 _ (by omega) (by omega))) ?_; clear hE a; intro a hE
      refine q0 p61_6_1 hE (st_move rfl) ?_; clear hE a; intro a hE
      refine p_nil (x_norm ?_)
      have hok9 : okJ SZ ln ze l k := ⟨hb10, fun h => absurd h hc11, fun h => absurd h hc15⟩
      exact ⟨k + 1, by omega, En.sub hE ⟨rfl, rfl, rfl, rfl, rfl, rfl, trivial⟩, by omega, fun j hj => by rcases Nat.lt_succ_iff_lt_or_eq.1 hj with h | h; exact hall j h; rw [h]; exact hok9, B_g1, K_0⟩
   ·
    rw [hb10] at hE
    refine p_cons (s_skip p61_4_9 hE (wn_some g61_4_8 rfl rfl) rfl ?_); clear hE a; intro a hE
    refine p_cons (s_skip p61_4_10 hE (wn_some g61_4_8 rfl rfl) rfl ?_); clear hE a; intro a hE
    refine p_cons (s_skip p61_4_11 hE (wn_some g61_4_8 rfl rfl) rfl ?_); clear hE a; intro a hE
    refine p_cons (s_skip p61_4_12 hE (wn_some g61_4_8 rfl rfl) rfl ?_); clear hE a; intro a hE
    refine p_cons (s_skip p61_4_13 hE (wn_some g61_4_8 rfl rfl) rfl ?_); clear hE a; intro a hE
    refine p_cons (s_skip p61_4_14 hE (wn_undef g61_4_13 rfl) rfl ?_); clear hE a; intro a hE
    refine p_cons (s_skip p61_4_15 hE (wn_undef g61_4_13 rfl) rfl ?_); clear hE a; intro a hE
    refine p_cons (s_skip p61_4_16 hE (wn_undef g61_4_13 rfl) rfl ?_); clear hE a; intro a hE
    refine p_cons (s_skip p61_4_17 hE (wn_undef g61_4_13 rfl) rfl ?_); clear hE a; intro a hE
    refine p_cons (s_skip p61_4_18 hE (wn_undef g61_4_13 rfl) rfl ?_); clear hE a; intro a hE
    refine p_cons (s_skip p61_4_19 hE (wn_some g61_4_8 rfl rfl) rfl ?_); clear hE a; intro a hE
    refine q0 p61_4_20 hE (st_pick rfl rfl) ?_; clear hE a; intro a hE
    refine q0 p61_4_21 hE (st_move rfl) ?_; clear hE a; intro a hE
    refine p_cons (s_skip p61_4_22 hE (wn_some g61_4_21 rfl rfl) rfl ?_); clear hE a; intro a hE
    refine p_cons (s_skip p61_4_23 hE (wn_some g61_4_21 rfl rfl) rfl ?_); clear hE a; intro a hE
    refine p_cons (s_skip p61_4_24 hE (wn_some g61_4_21 rfl rfl) rfl ?_); clear hE a; intro a hE
    refine p_cons (s_skip p61_4_25 hE (wn_some g61_4_21 rfl rfl) rfl ?_); clear hE a; intro a hE
    refine p_cons (s_skip p61_4_26 hE (wn_some g61_4_21 rfl rfl) rfl ?_); clear hE a; intro a hE
    refine p_cons (s_skip p61_4_27 hE (wn_undef g61_4_26 rfl) rfl ?_); clear hE a; intro a hE
    refine p_cons (s_skip p61_4_28 hE (wn_undef g61_4_26 rfl) rfl ?_); clear hE a; intro a hE
    refine p_cons (s_skip p61_4_29 hE (wn_undef g61_4_26 rfl) rfl ?_); clear hE a; intro a hE
    refine p_cons (s_skip p61_4_30 hE (wn_undef g61_4_26 rfl) rfl ?_); clear hE a; intro a hE
    refine p_cons (s_skip p61_4_31 hE (wn_undef g61_4_26 rfl) rfl ?_); clear hE a; intro a hE
    refine p_cons (s_skip p61_4_32 hE (wn_some g61_4_21 rfl rfl) rfl ?_); clear hE a; intro a hE
    refine q0 p61_4_33 hE (st_pick rfl rfl) ?_; clear hE a; intro a hE
    refine p_nil (x_norm ?_)
    refine c_cond (t := true) hE rfl ?_
    refine c_reg R61_5_l ?_
    refine q0 p61_5_0 hE (st_assign rfl) ?_; clear hE a; intro a hE
    refine p_nil (x_norm (wp_ret (x_retB (x_ret (x_ret (x_retB (x_ret ?_)))))))
    refine ret_one (v := Value.int .i64 1) rfl hE (.tmp rfl .nil) ?_
    exact h1 (fun H => by have h9 := H k (by omega); have e1 := h9.1; have e2 := h9.2.1; have e3 := h9.2.2; rw [hb10] at e1; cases e1) _ K_0
  ·
   refine p_cons (s_still (v := Value.bool false) p61_2_0 hE wn_none rfl (st_lss rfl rfl (decide_eq_false hc5)) ?_); clear hE a; intro a hE
   refine p_nil (x_norm (wp_seq ?_))
   refine c_cond (t := false) hE rfl ?_
   refine wp_exit (x_exit (x_exit ?_))
   obtain rfl : k = SZ.length := by omega
   refine x_in (x_norm (c_reg R61_7_l ?_))
   refine q0 p61_7_0 hE (st_assign rfl) ?_; clear hE a; intro a hE
   refine p_nil (x_norm (wp_ret ?_))
   refine ret_one (v := Value.int .i64 0) rfl hE (.tmp rfl .nil) ?_
   exact h0 hall _ K_0
def numB (SZ : List Int) (ln ze : Int) (l : List Int) : Bool := (List.range SZ.length).all fun j => fitsF (rd SZ (j : Int)) [rd l (j : Int)] && (!decide ((j : Int) = ln) || decide (rd l (j : Int) ≤ 128)) && (!decide ((j : Int) = ze) || decide (rd l (j : Int) = 0))
theorem numB_iff (SZ : List Int) (ln ze : Int) (l : List Int) : numB SZ ln ze l = true ↔ numOK SZ ln ze l := by
 unfold numB numOK
 rw [List.all_eq_true]
 constructor
 ·
  intro h j hj
  have := h j (List.mem_range.2 hj)
  simp only [Bool.and_eq_true, Bool.or_eq_true, Bool.not_eq_true', decide_eq_false_iff_not, decide_eq_true_eq] at this
  exact ⟨this.1.1, fun e => this.1.2.resolve_left (fun h => h e), fun e => this.2.resolve_left (fun h => h e)⟩
 ·
  intro h j hj
  obtain ⟨a, b, c⟩ := h j (List.mem_range.1 hj)
  simp only [Bool.and_eq_true, Bool.or_eq_true, Bool.not_eq_true', decide_eq_false_iff_not, decide_eq_true_eq]
  refine ⟨⟨a, ?_⟩, ?_⟩
  ·
   by_cases e : (j : Int) = ln
   · exact .inr (b e)
   · exact .inl e
  ·
   by_cases e : (j : Int) = ze
   · exact .inr (c e)
   · exact .inl e
theorem num_any (WD : ByteArray) (A B : Option Addr) (c cb nb : Nat) (be ln ze : Int) (ad : Bool) (SZ l : List Int) (b : Bool) (hb : numB SZ ln ze l = b) (hln : nb = SZ.length) (hSZ : SZ.length ≤ 1000) (w : World) (F_A : ∀ W', Kp w W' (fun _ => False) → Kd.C (Kd.int .i64) W' A SZ.length SZ) (F_B : ∀ W', Kp w W' (fun _ => False) → Kd.C (Kd.int .i64) W' B nb l) : Calls Try.prog 61 #[Value.agg #[Value.string WD, Value.slice A SZ.length c, Value.int .i64 be, Value.bool ad, Value.int .i64 ln, Value.int .i64 ze], .slice B nb cb] w fun e w' => e = .returned (.int .i64 (if b = true then 0 else 1)) ∧ Kp w w' (fun _ => False) :=
 num_R WD A B c cb nb be ln ze ad SZ l hln hSZ w F_A F_B (fun h w' hk => ⟨by rw [← hb, (numB_iff SZ ln ze l).2 h]; rfl, hk⟩) (fun h w' hk => ⟨by
  have : numB SZ ln ze l ≠ true := fun h2 => h ((numB_iff SZ ln ze l).1 h2)
  rw [← hb, if_neg this], hk⟩)
theorem of_okb (k : Nat) (hk : k ≤ 9) (b : Bool) (hb : addrF k = b) (w : World) : Calls Try.prog 57 #[.int .i64 (k : Int)] w fun e w' => ∃ A c, e = .returned (.tuple #[.agg #[.string (wordF k), .slice A (sizesF k).length c, .int .i64 (behindF k), .bool b, .int .i64 (lenF k), .int .i64 (zeroF k)], .bool true]) ∧ (∀ W', Kp w' W' (fun _ => False) → Kd.C (Kd.int .i64) W' A (sizesF k).length (sizesF k)) ∧ (sizesF k).length ≤ c ∧ Kp w w' (fun _ => False) := by
 subst hb; exact of_ok k hk w
theorem sizes_len (k : Nat) : (sizesF k).length ≤ 10 := by
 unfold sizesF; split <;> decide
/-- What is wrong with an option. -/
def chkF (k nb : Nat) (l : List Int) (f : Nat → Int) (tn : Nat) : Int := if ¬ nb = (sizesF k).length ∨ (¬ eqL (b16 f) (b16 (fun _ => 0)) = true ∧ ¬ addrF k = true) ∨ (0 < tn ∧ ¬ k = 2) then 3 else if ¬ numB (sizesF k) (lenF k) (zeroF k) l = true then 1 else if 64 < tn then 2 else 0
def chkO (kk : Int) (nb : Nat) (l : List Int) (f : Nat → Int) (tn : Nat) : Int := if 0 ≤ kk ∧ kk ≤ 9 then chkF kk.toNat nb l f tn else 6
theorem R60_0_l : List.range (regOf Try.f60 0).size = [0] := by kernel_rfl
theorem R60_1_l : List.range (regOf Try.f60 1).size = [0, 1, 2] := by kernel_rfl
theorem body60 : Try.f60.body = some (.seq (.region 0 (regOf Try.f60 0) false) (.seq (.region 1 (regOf Try.f60 1) false) (.ret))) := by kernel_rfl
theorem p60_0_0 : pj (regOf Try.f60 0) 0 = some (some 2, .assign (.const (.bool false)), 4, none) := by kernel_rfl
theorem p60_1_0 : pj (regOf Try.f60 1) 0 = some (some 3, .move (.tmp 0), 3, none) := by kernel_rfl
theorem p60_1_1 : pj (regOf Try.f60 1) 1 = some (some 4, .binOp .eql 3 (.tmp 3) (.const (.int .i64 2)) 3, 4, none) := by kernel_rfl
theorem p60_1_2 : pj (regOf Try.f60 1) 2 = some (some 2, .assign (.tmp 4), 4, none) := by kernel_rfl
set_option maxHeartbeats 4000000 in
theorem texts_any (x : Int) (w : World) : Calls Try.prog 60 #[.int .i64 x] w fun e w' => e = .returned (.bool (decide (x = 2))) ∧ Kp w w' (fun _ => False) := by
 have K_0 := Kp.refl w (fun _ => False)
 refine enter (args := [Value.int .i64 x]) (n := 5) Try.func60 body60 rfl rfl rfl ?_
 intro a hE
 refine c_reg R60_0_l ?_
 refine q0 p60_0_0 hE (st_assign rfl) ?_; clear hE a; intro a hE
 refine p_nil (x_norm (c_reg R60_1_l ?_))
 refine q0 p60_1_0 hE (st_move rfl) ?_; clear hE a; intro a hE
 refine q0 p60_1_1 hE (st_eql (b := (decide (x = 2))) rfl rfl rfl) ?_; clear hE a; intro a hE
 refine q0 p60_1_2 hE (st_assign rfl) ?_; clear hE a; intro a hE
 refine p_nil (x_norm (wp_ret ?_))
 refine ret_one (v := Value.bool (decide (x = 2))) rfl hE (.tmp rfl .nil) ?_
 exact ⟨rfl, K_0⟩
section
variable {P : Program} {t e : TypeId} {d n s o : Nat} {k : IntKind} {l ks : List (Option IntKind)}
theorem flat_int (hu : P.underlying t = some (.int k)) : flat P (d + 1) t = some [some k] := by unfold flat; rw [hu]
theorem flat_arr (hu : P.underlying t = some (.array n e)) (he : flat P d e = some l) (hi : (P.info? e).map (·.size) = some s) (hs : s = l.length) (hA : flat.isAggT P e = true ∨ l.length = 1) : flat P (d + 1) t = some (List.replicate n l).flatten := by
 obtain ⟨i, h9, h8⟩ := Option.map_eq_some_iff.1 hi; subst h8
 unfold flat; rw [hu]; show (match flat P d e, P.info? e with | some l, some i => if i.size = l.length ∧ (flat.isAggT P e = true ∨ l.length = 1) then some (List.replicate n l).flatten else none | _, _ => none) = _; rw [he, h9]; exact if_pos ⟨hs, hA⟩
end
theorem eqZ_ks : flat Try.prog 9 48 = some ([some .u8, some .u8, some .u8, some .u8, some .u8, some .u8, some .u8, some .u8, some .u8, some .u8, some .u8, some .u8, some .u8, some .u8, some .u8, some .u8]) := Eq.trans (flat_arr Try.underlying48 (flat_int Try.underlying5) (by kernel_rfl) rfl (Or.inr rfl)) rfl
theorem R22_6_l : List.range (regOf Try.f22 6).size = [0, 1, 2, 3, 4] := by kernel_rfl
theorem R22_7_l : List.range (regOf Try.f22 7).size = [0, 1] := by kernel_rfl
theorem R22_8_l : List.range (regOf Try.f22 8).size = [0, 1] := by kernel_rfl
theorem R22_9_l : List.range (regOf Try.f22 9).size = [0, 1, 2, 3] := by kernel_rfl
theorem R22_10_l : List.range (regOf Try.f22 10).size = [0] := by kernel_rfl
theorem R22_11_l : List.range (regOf Try.f22 11).size = [0] := by kernel_rfl
theorem p22_6_0 : pj (regOf Try.f22 6) 0 = some (some 46, .load 116 (.tmp 3), 116, none) := by kernel_rfl
theorem tA116 : (Try.prog.underlying 116).map aggD = some true := by kernel_rfl
theorem tS116 : (Try.prog.info? 116).map (·.size) = some 6 := by kernel_rfl
theorem p22_6_1 : pj (regOf Try.f22 6) 1 = some (some 47, .fieldAddr 50 (.tmp 1) 1, 0, none) := by kernel_rfl
theorem p22_6_2 : pj (regOf Try.f22 6) 2 = some (some 48, .load 42 (.tmp 47), 42, none) := by kernel_rfl
theorem p22_6_3 : pj (regOf Try.f22 6) 3 = some (some 49, .call { callee := .value (.func 61), args := #[.tmp 46, .tmp 48], argTypes := #[116, 42] }, 24, none) := by kernel_rfl
theorem cl61 : callable Try.f61 = true := by kernel_rfl
theorem p22_6_4 : pj (regOf Try.f22 6) 4 = some (some 5, .assign (.tmp 49), 24, none) := by kernel_rfl
theorem p22_7_0 : pj (regOf Try.f22 7) 0 = some (some 50, .move (.tmp 5), 24, none) := by kernel_rfl
theorem p22_7_1 : pj (regOf Try.f22 7) 1 = some (some 51, .binOp .neq 24 (.tmp 50) (.const (.int .i64 0)) 24, 4, none) := by kernel_rfl
theorem p22_9_0 : pj (regOf Try.f22 9) 0 = some (some 53, .fieldAddr 50 (.tmp 1) 3, 0, none) := by kernel_rfl
theorem tS22 : (Try.prog.info? 22).map (·.size) = some 1 := by kernel_rfl
theorem p22_9_1 : pj (regOf Try.f22 9) 1 = some (some 54, .load 22 (.tmp 53), 22, none) := by kernel_rfl
theorem tA22 : (Try.prog.underlying 22).map aggD = some false := by kernel_rfl
theorem p22_9_2 : pj (regOf Try.f22 9) 2 = some (some 55, .call { callee := .builtin .len, args := #[.tmp 54], argTypes := #[22] }, 3, none) := by kernel_rfl
theorem p22_9_3 : pj (regOf Try.f22 9) 3 = some (some 56, .binOp .gtr 3 (.tmp 55) (.const (.int .i64 64)) 3, 4, none) := by kernel_rfl
theorem p22_10_0 : pj (regOf Try.f22 10) 0 = some (some 2, .assign (.const (.int .i64 2)), 24, none) := by kernel_rfl
theorem p22_11_0 : pj (regOf Try.f22 11) 0 = some (some 2, .assign (.const (.int .i64 0)), 24, none) := by kernel_rfl
theorem p22_8_0 : pj (regOf Try.f22 8) 0 = some (some 52, .move (.tmp 5), 24, none) := by kernel_rfl
theorem p22_8_1 : pj (regOf Try.f22 8) 1 = some (some 2, .assign (.tmp 52), 24, none) := by kernel_rfl
set_option maxHeartbeats 4000000 in
theorem ctail (k : Nat) (hk9 : k ≤ 9) (B T A1 : Option Addr) (cb tn ct c1 nb : Nat) (l : List Int) (f : Nat → Int) (ad : Bool) (w W : World) (gO : Nat) (B_gO : W.heap[gO]? = some (.cells (([Value.int .i64 (k : Int), Value.slice B nb cb] ++ b16 f ++ [Value.slice T tn ct])).toArray 50 (0, 0))) (gF : Nat) (B_gF : W.heap[gF]? = some (.cells #[Value.string (wordF k), Value.slice A1 ((sizesF k).length) c1, Value.int .i64 (behindF k), Value.bool ad, Value.int .i64 (lenF k), Value.int .i64 (zeroF k)] 116 (0, 0))) (hne9 : gO ≠ gF) (K_0 : Kp w W (fun _ => False)) (F_B : ∀ W', Kp w W' (fun _ => False) → Kd.C (Kd.int .i64) W' B nb l) (F_1 : ∀ W', Kp W W' (fun _ => False) → Kd.C (Kd.int .i64) W' A1 (sizesF k).length (sizesF k)) (hnb : nb = (sizesF k).length) (n3 : ¬ (¬ nb = (sizesF k).length ∨ (¬ eqL (b16 f) (b16 (fun _ => 0)) = true ∧ ¬ addrF k = true) ∨ (0 < tn ∧ ¬ k = 2))) (a : Act) (hE : En 57 a [(1, Value.pointer (some ⟨gO, 0, none⟩)), (2, Value.int .i64 0), (3, Value.pointer (some ⟨gF, 0, none⟩))]) : Code.wp Try.prog (.seq (.seq (.region 6 (regOf Try.f22 6) false) (.seq (.region 7 (regOf Try.f22 7) false) (.cond (Operand.tmp 51) (.seq (.region 8 (regOf Try.f22 8) false) (.ret)) (.skip)))) (.seq (.seq (.region 9 (regOf Try.f22 9) false) (.cond (Operand.tmp 56) (.seq (.region 10 (regOf Try.f22 10) false) (.ret)) (.skip))) (.seq (.region 11 (regOf Try.f22 11) false) (.ret)))) (bodyPost Try.prog Try.f22 (fun e w' => e = .returned (.int .i64 (chkO (k : Int) nb l f tn)) ∧ Kp w w' (fun _ => False))) a W := by
 have n_gO_gF := hne9
 have K_s := Kp.refl W (fun _ => False)
 refine wp_seq (c_reg R22_6_l ?_)
 refine q0 p22_6_0 hE (st_loadN (off := 0) (k := 6) (vs := [Value.string (wordF k), Value.slice A1 ((sizesF k).length) c1, Value.int .i64 (behindF k), Value.bool ad, Value.int .i64 (lenF k), Value.int .i64 (zeroF k)]) tA116 tS116 rfl B_gF rfl rfl) ?_; clear hE a; intro a hE
 refine q0 p22_6_1 hE (st_fieldAddr Try.underlying50 rfl tS42 rfl rfl) ?_; clear hE a; intro a hE
 refine q0 p22_6_2 hE (st_load1 tA42 rfl ((blk_cell B_gO 1).trans rfl)) ?_; clear hE a; intro a hE
 refine p_cons (s_call (xs := [Operand.tmp 46, Operand.tmp 48]) (args := [Value.agg #[Value.string (wordF k), Value.slice A1 ((sizesF k).length) c1, Value.int .i64 (behindF k), Value.bool ad, Value.int .i64 (lenF k), Value.int .i64 (zeroF k)], Value.slice B nb cb]) p22_6_3 hE wn_none rfl rfl Try.func61 cl61 (num_any (wordF k) A1 B c1 cb nb (behindF k) (lenF k) (zeroF k) ad (sizesF k) l _ rfl hnb (by have := sizes_len k; omega) _ (fun W' hk => F_1 W' (K_s.then_ hk (fun _ h => h.elim))) (fun W' hk => F_B W' (K_0.then_ hk (fun _ h => h.elim)))) ?_)
 rintro e w1 ⟨rfl, hk⟩
 replace B_gO := kp_blk B_gO hk (fun h => h)
 replace B_gF := kp_blk B_gF hk (fun h => h)
 replace K_0 := K_0.then_ hk (fun _ h => h.elim)
 replace K_s := K_s.then_ hk (fun _ h => h.elim)
 refine ⟨_, rfl, ?_⟩; clear hE a; intro a hE
 refine q0 p22_6_4 hE (st_assign rfl) ?_; clear hE a; intro a hE
 refine p_nil (x_norm (c_reg R22_7_l ?_))
 refine q0 p22_7_0 hE (st_move rfl) ?_; clear hE a; intro a hE
 rcases Decidable.em ((if numB (sizesF k) (lenF k) (zeroF k) l = true then (0 : Int) else 1) = 0) with hc2 | hc2
 ·
  refine p_cons (s_still (v := Value.bool false) p22_7_1 hE wn_none rfl (st_neq rfl rfl (by rw [decide_eq_true hc2]; rfl)) ?_); clear hE a; intro a hE
  refine p_nil (x_norm ?_)
  refine c_cond (t := false) hE rfl ?_
  refine wp_skip (x_norm (wp_seq (c_reg R22_9_l ?_)))
  refine q0 p22_9_0 hE (st_fieldAddr Try.underlying50 rfl tS22 rfl rfl) ?_; clear hE a; intro a hE
  refine q0 p22_9_1 hE (st_load1 tA22 rfl ((blk_cell B_gO 18).trans rfl)) ?_; clear hE a; intro a hE
  refine q0 p22_9_2 hE (st_len Try.underlying22 rfl) ?_; clear hE a; intro a hE
  rcases Decidable.em (64 < (tn : Int)) with hc3 | hc3
  ·
   refine p_cons (s_still (v := Value.bool true) p22_9_3 hE wn_none rfl (st_gtr rfl rfl (decide_eq_true hc3)) ?_); clear hE a; intro a hE
   refine p_nil (x_norm ?_)
   refine c_cond (t := true) hE rfl ?_
   refine c_reg R22_10_l ?_
   refine q0 p22_10_0 hE (st_assign rfl) ?_; clear hE a; intro a hE
   refine p_nil (x_norm (wp_ret (x_ret ?_)))
   refine ret_one (v := Value.int .i64 2) rfl hE (.tmp rfl .nil) ?_
   have ec : chkO (k : Int) nb l f tn = chkF k nb l f tn := by unfold chkO; rw [if_pos ⟨by omega, by omega⟩]; rfl
   have hNB : numB (sizesF k) (lenF k) (zeroF k) l = true := Decidable.byContradiction fun h => by rw [if_neg h] at hc2; exact absurd hc2 (by decide)
   exact ⟨by rw [ec]; unfold chkF; rw [if_neg n3, if_neg (fun h => h hNB), if_pos (by omega)], K_0⟩
  ·
   refine p_cons (s_still (v := Value.bool false) p22_9_3 hE wn_none rfl (st_gtr rfl rfl (decide_eq_false hc3)) ?_); clear hE a; intro a hE
   refine p_nil (x_norm ?_)
   refine c_cond (t := false) hE rfl ?_
   refine wp_skip (x_norm (c_reg R22_11_l ?_))
   refine q0 p22_11_0 hE (st_assign rfl) ?_; clear hE a; intro a hE
   refine p_nil (x_norm (wp_ret ?_))
   refine ret_one (v := Value.int .i64 0) rfl hE (.tmp rfl .nil) ?_
   have ec : chkO (k : Int) nb l f tn = chkF k nb l f tn := by unfold chkO; rw [if_pos ⟨by omega, by omega⟩]; rfl
   have hNB : numB (sizesF k) (lenF k) (zeroF k) l = true := Decidable.byContradiction fun h => by rw [if_neg h] at hc2; exact absurd hc2 (by decide)
   exact ⟨by rw [ec]; unfold chkF; rw [if_neg n3, if_neg (fun h => h hNB), if_neg (by omega)], K_0⟩
 ·
  refine p_cons (s_still (v := Value.bool true) p22_7_1 hE wn_none rfl (st_neq rfl rfl (by rw [decide_eq_false hc2]; rfl)) ?_); clear hE a; intro a hE
  refine p_nil (x_norm ?_)
  refine c_cond (t := true) hE rfl ?_
  refine c_reg R22_8_l ?_
  refine q0 p22_8_0 hE (st_move rfl) ?_; clear hE a; intro a hE
  refine q0 p22_8_1 hE (st_assign rfl) ?_; clear hE a; intro a hE
  refine p_nil (x_norm (wp_ret (x_ret ?_)))
  refine ret_one (v := Value.int .i64 (if numB (sizesF k) (lenF k) (zeroF k) l = true then (0 : Int) else 1)) rfl hE (.tmp rfl .nil) ?_
  have ec : chkO (k : Int) nb l f tn = chkF k nb l f tn := by unfold chkO; rw [if_pos ⟨by omega, by omega⟩]; rfl
  have hNB : ¬ numB (sizesF k) (lenF k) (zeroF k) l = true := fun h => hc2 (by rw [if_pos h])
  exact ⟨by rw [ec]; unfold chkF; rw [if_neg n3, if_pos hNB, if_neg hNB], K_0⟩
theorem R22_0_l : List.range (regOf Try.f22 0).size = [0, 1] := by kernel_rfl
theorem R22_1_l : List.range (regOf Try.f22 1).size = [0, 1, 2, 3, 4, 5, 6, 7, 8] := by kernel_rfl
theorem R22_2_l : List.range (regOf Try.f22 2).size = [0, 1, 2] := by kernel_rfl
theorem R22_3_l : List.range (regOf Try.f22 3).size = [0] := by kernel_rfl
theorem R22_4_l : List.range (regOf Try.f22 4).size = [0, 1, 2, 3, 4, 5, 6, 7, 8, 9, 10, 11, 12, 13, 14, 15, 16, 17, 18, 19, 20, 21, 22, 23, 24, 25, 26, 27, 28, 29, 30] := by kernel_rfl
theorem R22_5_l : List.range (regOf Try.f22 5).size = [0] := by kernel_rfl
theorem body22 : Try.f22.body = some (.seq (.region 0 (regOf Try.f22 0) false) (.seq (.region 1 (regOf Try.f22 1) false) (.seq (.block 0 (.seq (.region 2 (regOf Try.f22 2) false) (.cond (Operand.tmp 12) (.seq (.region 3 (regOf Try.f22 3) false) (.ret)) (.seq (.region 4 (regOf Try.f22 4) false) (.cond (Operand.tmp 15) (.seq (.region 5 (regOf Try.f22 5) false) (.ret)) (.skip)))))) (.seq (.seq (.region 6 (regOf Try.f22 6) false) (.seq (.region 7 (regOf Try.f22 7) false) (.cond (Operand.tmp 51) (.seq (.region 8 (regOf Try.f22 8) false) (.ret)) (.skip)))) (.seq (.seq (.region 9 (regOf Try.f22 9) false) (.cond (Operand.tmp 56) (.seq (.region 10 (regOf Try.f22 10) false) (.ret)) (.skip))) (.seq (.region 11 (regOf Try.f22 11) false) (.ret))))))) := by kernel_rfl
theorem p22_0_0 : pj (regOf Try.f22 0) 0 = some (some 1, .box 50 (.tmp 0), 0, none) := by kernel_rfl
theorem p22_0_1 : pj (regOf Try.f22 0) 1 = some (some 2, .assign (.const (.int .i64 0)), 24, none) := by kernel_rfl
theorem p22_1_0 : pj (regOf Try.f22 1) 0 = some (some 7, .fieldAddr 50 (.tmp 1) 0, 0, none) := by kernel_rfl
theorem p22_1_1 : pj (regOf Try.f22 1) 1 = some (some 8, .load 3 (.tmp 7), 3, none) := by kernel_rfl
theorem p22_1_2 : pj (regOf Try.f22 1) 2 = some (some 9, .call { callee := .value (.func 57), args := #[.tmp 8], argTypes := #[3] }, 117, none) := by kernel_rfl
theorem cl57 : callable Try.f57 = true := by kernel_rfl
theorem p22_1_3 : pj (regOf Try.f22 1) 3 = some (some 6, .move (.tmp 9), 117, none) := by kernel_rfl
theorem p22_1_4 : pj (regOf Try.f22 1) 4 = some (some 10, .extract (.tmp 6) 0, 116, none) := by kernel_rfl
theorem p22_1_5 : pj (regOf Try.f22 1) 5 = some (some 11, .extract (.tmp 6) 1, 4, none) := by kernel_rfl
theorem p22_1_6 : pj (regOf Try.f22 1) 6 = some (some 3, .alloc 116, 0, none) := by kernel_rfl
theorem tZ116 : (Try.prog.info? 116).bind (·.zero) = some (Value.agg #[Value.string ByteArray.empty, Value.slice none 0 0, Value.int .i64 0, Value.bool false, Value.int .i64 0, Value.int .i64 0]) := by kernel_rfl
theorem p22_1_7 : pj (regOf Try.f22 1) 7 = some (none, .store 116 (.tmp 3) (.tmp 10), 0, none) := by kernel_rfl
theorem p22_1_8 : pj (regOf Try.f22 1) 8 = some (some 4, .assign (.tmp 11), 4, none) := by kernel_rfl
theorem p22_2_0 : pj (regOf Try.f22 2) 0 = some (some 13, .move (.tmp 4), 4, none) := by kernel_rfl
theorem p22_2_1 : pj (regOf Try.f22 2) 1 = some (some 14, .unOp .not 4 (.tmp 13), 4, none) := by kernel_rfl
theorem p22_2_2 : pj (regOf Try.f22 2) 2 = some (some 12, .assign (.tmp 14), 4, none) := by kernel_rfl
theorem p22_4_0 : pj (regOf Try.f22 4) 0 = some (some 16, .fieldAddr 50 (.tmp 1) 1, 0, none) := by kernel_rfl
theorem p22_4_1 : pj (regOf Try.f22 4) 1 = some (some 17, .load 42 (.tmp 16), 42, none) := by kernel_rfl
theorem p22_4_2 : pj (regOf Try.f22 4) 2 = some (some 18, .call { callee := .builtin .len, args := #[.tmp 17], argTypes := #[42] }, 3, none) := by kernel_rfl
theorem p22_4_3 : pj (regOf Try.f22 4) 3 = some (some 19, .fieldAddr 116 (.tmp 3) 1, 0, none) := by kernel_rfl
theorem p22_4_4 : pj (regOf Try.f22 4) 4 = some (some 20, .load 42 (.tmp 19), 42, none) := by kernel_rfl
theorem p22_4_5 : pj (regOf Try.f22 4) 5 = some (some 21, .call { callee := .builtin .len, args := #[.tmp 20], argTypes := #[42] }, 3, none) := by kernel_rfl
theorem p22_4_6 : pj (regOf Try.f22 4) 6 = some (some 22, .binOp .neq 3 (.tmp 18) (.tmp 21) 3, 4, none) := by kernel_rfl
theorem p22_4_7 : pj (regOf Try.f22 4) 7 = some (some 23, .move (.tmp 22), 4, none) := by kernel_rfl
theorem p22_4_8 : pj (regOf Try.f22 4) 8 = some (some 24, .fieldAddr 50 (.tmp 1) 2, 0, some (7, false)) := by kernel_rfl
theorem g22_4_7 : dstOf (regOf Try.f22 4) 7 = some 23 := by kernel_rfl
theorem tS48 : (Try.prog.info? 48).map (·.size) = some 16 := by kernel_rfl
theorem p22_4_9 : pj (regOf Try.f22 4) 9 = some (some 25, .load 48 (.tmp 24), 48, some (7, false)) := by kernel_rfl
theorem tA48 : (Try.prog.underlying 48).map aggD = some true := by kernel_rfl
theorem p22_4_10 : pj (regOf Try.f22 4) 10 = some (some 26, .build 48 #[], 48, some (7, false)) := by kernel_rfl
theorem p22_4_11 : pj (regOf Try.f22 4) 11 = some (some 27, .binOp .neq 48 (.tmp 25) (.tmp 26) 48, 4, some (7, false)) := by kernel_rfl
theorem eg48 : Try.prog.eqGuardType Try.prog.depth 48 = false := by kernel_rfl
theorem p22_4_12 : pj (regOf Try.f22 4) 12 = some (some 28, .move (.tmp 27), 4, some (7, false)) := by kernel_rfl
theorem p22_4_13 : pj (regOf Try.f22 4) 13 = some (some 29, .fieldAddr 116 (.tmp 3) 3, 0, some (12, true)) := by kernel_rfl
theorem g22_4_12 : dstOf (regOf Try.f22 4) 12 = some 28 := by kernel_rfl
theorem p22_4_14 : pj (regOf Try.f22 4) 14 = some (some 30, .load 4 (.tmp 29), 4, some (12, true)) := by kernel_rfl
theorem p22_4_15 : pj (regOf Try.f22 4) 15 = some (some 31, .unOp .not 4 (.tmp 30), 4, some (12, true)) := by kernel_rfl
theorem p22_4_16 : pj (regOf Try.f22 4) 16 = some (some 32, .pick (.tmp 28) (.tmp 31) (.const (.bool false)), 4, some (7, false)) := by kernel_rfl
theorem p22_4_17 : pj (regOf Try.f22 4) 17 = some (some 33, .pick (.tmp 23) (.const (.bool true)) (.tmp 32), 4, none) := by kernel_rfl
theorem p22_4_18 : pj (regOf Try.f22 4) 18 = some (some 34, .move (.tmp 33), 4, none) := by kernel_rfl
theorem p22_4_19 : pj (regOf Try.f22 4) 19 = some (some 35, .fieldAddr 50 (.tmp 1) 3, 0, some (18, false)) := by kernel_rfl
theorem g22_4_18 : dstOf (regOf Try.f22 4) 18 = some 34 := by kernel_rfl
theorem p22_4_20 : pj (regOf Try.f22 4) 20 = some (some 36, .load 22 (.tmp 35), 22, some (18, false)) := by kernel_rfl
theorem p22_4_21 : pj (regOf Try.f22 4) 21 = some (some 37, .call { callee := .builtin .len, args := #[.tmp 36], argTypes := #[22] }, 3, some (18, false)) := by kernel_rfl
theorem p22_4_22 : pj (regOf Try.f22 4) 22 = some (some 38, .binOp .gtr 3 (.tmp 37) (.const (.int .i64 0)) 3, 4, some (18, false)) := by kernel_rfl
theorem p22_4_23 : pj (regOf Try.f22 4) 23 = some (some 39, .move (.tmp 38), 4, some (18, false)) := by kernel_rfl
theorem p22_4_24 : pj (regOf Try.f22 4) 24 = some (some 40, .fieldAddr 50 (.tmp 1) 0, 0, some (23, true)) := by kernel_rfl
theorem g22_4_23 : dstOf (regOf Try.f22 4) 23 = some 39 := by kernel_rfl
theorem p22_4_25 : pj (regOf Try.f22 4) 25 = some (some 41, .load 3 (.tmp 40), 3, some (23, true)) := by kernel_rfl
theorem p22_4_26 : pj (regOf Try.f22 4) 26 = some (some 42, .call { callee := .value (.func 60), args := #[.tmp 41], argTypes := #[3] }, 4, some (23, true)) := by kernel_rfl
theorem cl60 : callable Try.f60 = true := by kernel_rfl
theorem p22_4_27 : pj (regOf Try.f22 4) 27 = some (some 43, .unOp .not 4 (.tmp 42), 4, some (23, true)) := by kernel_rfl
theorem p22_4_28 : pj (regOf Try.f22 4) 28 = some (some 44, .pick (.tmp 39) (.tmp 43) (.const (.bool false)), 4, some (18, false)) := by kernel_rfl
theorem p22_4_29 : pj (regOf Try.f22 4) 29 = some (some 45, .pick (.tmp 34) (.const (.bool true)) (.tmp 44), 4, none) := by kernel_rfl
theorem p22_4_30 : pj (regOf Try.f22 4) 30 = some (some 15, .assign (.tmp 45), 4, none) := by kernel_rfl
theorem p22_5_0 : pj (regOf Try.f22 5) 0 = some (some 2, .assign (.const (.int .i64 3)), 24, none) := by kernel_rfl
theorem tS4 : (Try.prog.info? 4).map (·.size) = some 1 := by kernel_rfl
theorem tA4 : (Try.prog.underlying 4).map aggD = some false := by kernel_rfl
theorem p22_3_0 : pj (regOf Try.f22 3) 0 = some (some 2, .assign (.const (.int .i64 6)), 24, none) := by kernel_rfl
set_option maxHeartbeats 4000000 in
theorem check_any (kk : Int) (B T : Option Addr) (nb cb tn ct : Nat) (l : List Int) (f : Nat → Int) (w : World) (F_B : ∀ W', Kp w W' (fun _ => False) → Kd.C (Kd.int .i64) W' B nb l) : Calls Try.prog 22 #[Value.agg (([Value.int .i64 kk, Value.slice B nb cb] ++ b16 f ++ [Value.slice T tn ct])).toArray] w fun e w' => e = .returned (.int .i64 (chkO kk nb l f tn)) ∧ Kp w w' (fun _ => False) := by
 have K_0 := Kp.refl w (fun _ => False)
 refine enter (args := [Value.agg (([Value.int .i64 kk, Value.slice B nb cb] ++ b16 f ++ [Value.slice T tn ct])).toArray]) (n := 57) Try.func22 body22 rfl rfl rfl ?_
 intro a hE
 refine c_reg R22_0_l ?_
 refine p_cons (s_box p22_0_0 hE wn_none rfl rfl ?_)
 clear hE a; intro g1 w2 z3 B_g1 hk a hE
 replace B_g1 : w2.heap[g1]? = some (.cells (([Value.int .i64 kk, Value.slice B nb cb] ++ b16 f ++ [Value.slice T tn ct])).toArray 50 (0, 0)) := B_g1
 have z_0_g1 := Nat.le_trans K_0.kept.1 z3
 replace K_0 := K_0.then_ hk (fun _ h => h.elim)
 clear hk
 refine q0 p22_0_1 hE (st_assign rfl) ?_; clear hE a; intro a hE
 refine p_nil (x_norm ?_)
 rcases Decidable.em (0 ≤ kk ∧ kk ≤ 9) with hKN | hKN
 ·
  obtain ⟨k, rfl⟩ : ∃ k : Nat, kk = (k : Int) := ⟨kk.toNat, by omega⟩
  have hk9 : k ≤ 9 := by omega
  refine c_reg R22_1_l ?_
  refine q0 p22_1_0 hE (st_fieldAddr Try.underlying50 rfl tS3 rfl rfl) ?_; clear hE a; intro a hE
  refine q0 p22_1_1 hE (st_load1 tA3 rfl ((blk_cell B_g1 0).trans rfl)) ?_; clear hE a; intro a hE
  refine p_cons (s_call (xs := [Operand.tmp 8]) (args := [Value.int .i64 (k : Int)]) p22_1_2 hE wn_none rfl rfl Try.func57 cl57 (of_ok k hk9 _) ?_)
  rintro e w4 ⟨A1, c1, rfl, hF1, hc1, hk⟩
  replace B_g1 := kp_blk B_g1 hk (fun h => h)
  replace K_0 := K_0.then_ hk (fun _ h => h.elim)
  have K_s5 := Kp.refl w4 (fun _ => False)
  have F_1 : ∀ W', Kp w4 W' (fun _ => False) → Kd.C (Kd.int .i64) W' A1 (sizesF k).length (sizesF k) := hF1
  refine ⟨_, rfl, ?_⟩; clear hE a; intro a hE
  refine q0 p22_1_3 hE (st_move rfl) ?_; clear hE a; intro a hE
  refine q0 p22_1_4 hE (st_extract rfl rfl) ?_; clear hE a; intro a hE
  refine q0 p22_1_5 hE (st_extract rfl rfl) ?_; clear hE a; intro a hE
  refine p_cons (s_alloc p22_1_6 hE wn_none rfl tZ116 ?_)
  clear hE a; intro g6 w7 z8 B_g6 hk a hE
  replace B_g6 : w7.heap[g6]? = some (.cells #[Value.string ByteArray.empty, Value.slice none 0 0, Value.int .i64 0, Value.bool false, Value.int .i64 0, Value.int .i64 0] 116 (0, 0)) := B_g6
  have n_g1_g6 : g1 ≠ g6 := ne_new B_g1 z8
  have z_0_g6 := Nat.le_trans K_0.kept.1 z8
  have z_s5_g6 := Nat.le_trans K_s5.kept.1 z8
  replace B_g1 := kp_blk B_g1 hk (fun h => h)
  replace K_0 := K_0.then_ hk (fun _ h => h.elim)
  replace K_s5 := K_s5.then_ hk (fun _ h => h.elim)
  clear hk
  refine p_cons (s_store (off := 0) (k := 6) (cs' := #[Value.string (wordF k), Value.slice A1 ((sizesF k).length) c1, Value.int .i64 (behindF k), Value.bool (addrF k), Value.int .i64 (lenF k), Value.int .i64 (zeroF k)]) p22_1_7 hE wn_none tS116 rfl rfl rfl rfl B_g6 (Nat.le_of_ble_eq_true rfl) rfl ?_)
  intro w9 B_g6' hk
  replace B_g1 := kp_blk B_g1 hk n_g1_g6
  replace K_0 := K_0.then_ hk (fun k h => by rw [show k = g6 from h]; exact Or.inr z_0_g6)
  replace K_s5 := K_s5.then_ hk (fun k h => by rw [show k = g6 from h]; exact Or.inr z_s5_g6)
  replace B_g6 := B_g6'
  clear hk
  refine q0 p22_1_8 hE (st_assign rfl) ?_; clear hE a; intro a hE
  refine p_nil (x_norm (wp_seq (wp_block (c_reg R22_2_l ?_))))
  refine q0 p22_2_0 hE (st_move rfl) ?_; clear hE a; intro a hE
  refine q0 p22_2_1 hE (st_not rfl rfl) ?_; clear hE a; intro a hE
  refine q0 p22_2_2 hE (st_assign rfl) ?_; clear hE a; intro a hE
  refine p_nil (x_norm ?_)
  refine c_cond (t := false) hE rfl ?_
  refine c_reg R22_4_l ?_
  refine q0 p22_4_0 hE (st_fieldAddr Try.underlying50 rfl tS42 rfl rfl) ?_; clear hE a; intro a hE
  refine q0 p22_4_1 hE (st_load1 tA42 rfl ((blk_cell B_g1 1).trans rfl)) ?_; clear hE a; intro a hE
  refine q0 p22_4_2 hE (st_len Try.underlying42 rfl) ?_; clear hE a; intro a hE
  refine q0 p22_4_3 hE (st_fieldAddr Try.underlying116 rfl tS42 rfl rfl) ?_; clear hE a; intro a hE
  refine q0 p22_4_4 hE (st_load1 tA42 rfl ((blk_cell B_g6 1).trans rfl)) ?_; clear hE a; intro a hE
  refine q0 p22_4_5 hE (st_len Try.underlying42 rfl) ?_; clear hE a; intro a hE
  rcases Decidable.em ((nb : Int) = ((sizesF k).length : Int)) with hc10 | hc10
  ·
   refine p_cons (s_still (v := Value.bool false) p22_4_6 hE wn_none rfl (st_neq rfl rfl (by rw [decide_eq_true hc10]; rfl)) ?_); clear hE a; intro a hE
   refine q0 p22_4_7 hE (st_move rfl) ?_; clear hE a; intro a hE
   refine p_cons (s_still p22_4_8 hE (wn_some g22_4_7 rfl rfl) rfl (st_fieldAddr Try.underlying50 rfl tS48 rfl rfl) ?_); clear hE a; intro a hE
   refine p_cons (s_still p22_4_9 hE (wn_some g22_4_7 rfl rfl) rfl (st_loadN (off := 2) (k := 16) (vs := b16 f) tA48 tS48 rfl B_g1 rfl rfl) ?_); clear hE a; intro a hE
   refine p_cons (s_still p22_4_10 hE (wn_some g22_4_7 rfl rfl) rfl (st_build (xs := []) (vs := []) (cs := (b16 (fun _ => 0)).toArray) rfl (by kernel_rfl)) ?_); clear hE a; intro a hE
   rcases Decidable.em (eqL (b16 f) (b16 (fun _ => 0)) = true) with hc11 | hc11
   ·
    refine p_cons (s_still (v := Value.bool false) p22_4_11 hE (wn_some g22_4_7 rfl rfl) rfl (st_neqA (b := true) eg48 rfl rfl (eqA_flat eqZ_ks (by kernel_rfl) rfl rfl hc11)) ?_); clear hE a; intro a hE
    refine p_cons (s_still p22_4_12 hE (wn_some g22_4_7 rfl rfl) rfl (st_move rfl) ?_); clear hE a; intro a hE
    refine p_cons (s_skip p22_4_13 hE (wn_some g22_4_12 rfl rfl) rfl ?_); clear hE a; intro a hE
    refine p_cons (s_skip p22_4_14 hE (wn_some g22_4_12 rfl rfl) rfl ?_); clear hE a; intro a hE
    refine p_cons (s_skip p22_4_15 hE (wn_some g22_4_12 rfl rfl) rfl ?_); clear hE a; intro a hE
    refine p_cons (s_still p22_4_16 hE (wn_some g22_4_7 rfl rfl) rfl (st_pick rfl rfl) ?_); clear hE a; intro a hE
    refine q0 p22_4_17 hE (st_pick rfl rfl) ?_; clear hE a; intro a hE
    refine q0 p22_4_18 hE (st_move rfl) ?_; clear hE a; intro a hE
    refine p_cons (s_still p22_4_19 hE (wn_some g22_4_18 rfl rfl) rfl (st_fieldAddr Try.underlying50 rfl tS22 rfl rfl) ?_); clear hE a; intro a hE
    refine p_cons (s_still p22_4_20 hE (wn_some g22_4_18 rfl rfl) rfl (st_load1 tA22 rfl ((blk_cell B_g1 18).trans rfl)) ?_); clear hE a; intro a hE
    refine p_cons (s_still p22_4_21 hE (wn_some g22_4_18 rfl rfl) rfl (st_len Try.underlying22 rfl) ?_); clear hE a; intro a hE
    rcases Decidable.em (0 < (tn : Int)) with hc12 | hc12
    ·
     refine p_cons (s_still (v := Value.bool true) p22_4_22 hE (wn_some g22_4_18 rfl rfl) rfl (st_gtr rfl rfl (decide_eq_true hc12)) ?_); clear hE a; intro a hE
     refine p_cons (s_still p22_4_23 hE (wn_some g22_4_18 rfl rfl) rfl (st_move rfl) ?_); clear hE a; intro a hE
     refine p_cons (s_still p22_4_24 hE (wn_some g22_4_23 rfl rfl) rfl (st_fieldAddr Try.underlying50 rfl tS3 rfl rfl) ?_); clear hE a; intro a hE
     refine p_cons (s_still p22_4_25 hE (wn_some g22_4_23 rfl rfl) rfl (st_load1 tA3 rfl ((blk_cell B_g1 0).trans rfl)) ?_); clear hE a; intro a hE
     refine p_cons (s_call (xs := [Operand.tmp 41]) (args := [Value.int .i64 (k : Int)]) p22_4_26 hE (wn_some g22_4_23 rfl rfl) rfl rfl Try.func60 cl60 (texts_any (k : Int) _) ?_)
     rintro e w13 ⟨rfl, hk⟩
     replace B_g1 := kp_blk B_g1 hk (fun h => h)
     replace B_g6 := kp_blk B_g6 hk (fun h => h)
     replace K_0 := K_0.then_ hk (fun _ h => h.elim)
     replace K_s5 := K_s5.then_ hk (fun _ h => h.elim)
     refine ⟨_, rfl, ?_⟩; clear hE a; intro a hE
     refine p_cons (s_still p22_4_27 hE (wn_some g22_4_23 rfl rfl) rfl (st_not rfl rfl) ?_); clear hE a; intro a hE
     refine p_cons (s_still p22_4_28 hE (wn_some g22_4_18 rfl rfl) rfl (st_pick rfl rfl) ?_); clear hE a; intro a hE
     refine q0 p22_4_29 hE (st_pick rfl rfl) ?_; clear hE a; intro a hE
     refine q0 p22_4_30 hE (st_assign rfl) ?_; clear hE a; intro a hE
     refine p_nil (x_norm ?_)
     rcases Bool.eq_false_or_eq_true (decide ((k : Int) = 2)) with hb14 | hb14
     ·
      rw [hb14] at hE
      have hb14P := of_decide_eq_true hb14
      refine c_cond (t := false) hE rfl ?_
      refine wp_skip (x_normB (x_norm ?_))
      have n3 : ¬ (¬ nb = (sizesF k).length ∨ (¬ eqL (b16 f) (b16 (fun _ => 0)) = true ∧ ¬ addrF k = true) ∨ (0 < tn ∧ ¬ k = 2)) := by
       intro h; rcases h with h | h | h
       · omega
       · exact h.1 hc11
       · exact absurd (of_decide_eq_true hb14) (by omega)
      exact ctail k hk9 B T A1 cb tn ct c1 nb l f (addrF k) w w13 g1 B_g1 g6 B_g6 n_g1_g6 K_0 F_B (fun W' hk => F_1 W' (K_s5.then_ hk (fun _ h => h.elim))) (by omega) n3 a (En.sub hE ⟨rfl, rfl, rfl, trivial⟩)
     ·
      rw [hb14] at hE
      have hb14P := of_decide_eq_false hb14
      refine c_cond (t := true) hE rfl ?_
      refine c_reg R22_5_l ?_
      refine q0 p22_5_0 hE (st_assign rfl) ?_; clear hE a; intro a hE
      refine p_nil (x_norm (wp_ret (x_retB (x_ret ?_))))
      refine ret_one (v := Value.int .i64 3) rfl hE (.tmp rfl .nil) ?_
      have ec : chkO (k : Int) nb l f tn = chkF k nb l f tn := by unfold chkO; rw [if_pos ⟨by omega, by omega⟩]; rfl
      exact ⟨by rw [ec]; unfold chkF; rw [if_pos (Or.inr (Or.inr ⟨by omega, fun h => absurd (of_decide_eq_false hb14) (by omega)⟩))], K_0⟩
    ·
     refine p_cons (s_still (v := Value.bool false) p22_4_22 hE (wn_some g22_4_18 rfl rfl) rfl (st_gtr rfl rfl (decide_eq_false hc12)) ?_); clear hE a; intro a hE
     refine p_cons (s_still p22_4_23 hE (wn_some g22_4_18 rfl rfl) rfl (st_move rfl) ?_); clear hE a; intro a hE
     refine p_cons (s_skip p22_4_24 hE (wn_some g22_4_23 rfl rfl) rfl ?_); clear hE a; intro a hE
     refine p_cons (s_skip p22_4_25 hE (wn_some g22_4_23 rfl rfl) rfl ?_); clear hE a; intro a hE
     refine p_cons (s_skip p22_4_26 hE (wn_some g22_4_23 rfl rfl) rfl ?_); clear hE a; intro a hE
     refine p_cons (s_skip p22_4_27 hE (wn_some g22_4_23 rfl rfl) rfl ?_); clear hE a; intro a hE
     refine p_cons (s_still p22_4_28 hE (wn_some g22_4_18 rfl rfl) rfl (st_pick rfl rfl) ?_); clear hE a; intro a hE
     refine q0 p22_4_29 hE (st_pick rfl rfl) ?_; clear hE a; intro a hE
     refine q0 p22_4_30 hE (st_assign rfl) ?_; clear hE a; intro a hE
     refine p_nil (x_norm ?_)
     refine c_cond (t := false) hE rfl ?_
     refine wp_skip (x_normB (x_norm ?_))
     have n3 : ¬ (¬ nb = (sizesF k).length ∨ (¬ eqL (b16 f) (b16 (fun _ => 0)) = true ∧ ¬ addrF k = true) ∨ (0 < tn ∧ ¬ k = 2)) := by
      intro h; rcases h with h | h | h
      · omega
      · exact h.1 hc11
      · exact absurd h.1 (by omega)
     exact ctail k hk9 B T A1 cb tn ct c1 nb l f (addrF k) w w9 g1 B_g1 g6 B_g6 n_g1_g6 K_0 F_B (fun W' hk => F_1 W' (K_s5.then_ hk (fun _ h => h.elim))) (by omega) n3 a (En.sub hE ⟨rfl, rfl, rfl, trivial⟩)
   ·
    refine p_cons (s_still (v := Value.bool true) p22_4_11 hE (wn_some g22_4_7 rfl rfl) rfl (st_neqA (b := false) eg48 rfl rfl (eqA_flat eqZ_ks (by kernel_rfl) rfl rfl (by simpa using hc11))) ?_); clear hE a; intro a hE
    refine p_cons (s_still p22_4_12 hE (wn_some g22_4_7 rfl rfl) rfl (st_move rfl) ?_); clear hE a; intro a hE
    refine p_cons (s_still p22_4_13 hE (wn_some g22_4_12 rfl rfl) rfl (st_fieldAddr Try.underlying116 rfl tS4 rfl rfl) ?_); clear hE a; intro a hE
    refine p_cons (s_still p22_4_14 hE (wn_some g22_4_12 rfl rfl) rfl (st_load1 tA4 rfl ((blk_cell B_g6 3).trans rfl)) ?_); clear hE a; intro a hE
    refine p_cons (s_still p22_4_15 hE (wn_some g22_4_12 rfl rfl) rfl (st_not rfl rfl) ?_); clear hE a; intro a hE
    refine p_cons (s_still p22_4_16 hE (wn_some g22_4_7 rfl rfl) rfl (st_pick rfl rfl) ?_); clear hE a; intro a hE
    refine q0 p22_4_17 hE (st_pick rfl rfl) ?_; clear hE a; intro a hE
    refine q0 p22_4_18 hE (st_move rfl) ?_; clear hE a; intro a hE
    rcases Bool.eq_false_or_eq_true (addrF k) with hb15 | hb15
    ·
     rw [hb15] at hE
     refine p_cons (s_still p22_4_19 hE (wn_some g22_4_18 rfl rfl) rfl (st_fieldAddr Try.underlying50 rfl tS22 rfl rfl) ?_); clear hE a; intro a hE
     refine p_cons (s_still p22_4_20 hE (wn_some g22_4_18 rfl rfl) rfl (st_load1 tA22 rfl ((blk_cell B_g1 18).trans rfl)) ?_); clear hE a; intro a hE
     refine p_cons (s_still p22_4_21 hE (wn_some g22_4_18 rfl rfl) rfl (st_len Try.underlying22 rfl) ?_); clear hE a; intro a hE
     rcases Decidable.em (0 < (tn : Int)) with hc16 | hc16
     ·
      refine p_cons (s_still (v := Value.bool true) p22_4_22 hE (wn_some g22_4_18 rfl rfl) rfl (st_gtr rfl rfl (decide_eq_true hc16)) ?_); clear hE a; intro a hE
      refine p_cons (s_still p22_4_23 hE (wn_some g22_4_18 rfl rfl) rfl (st_move rfl) ?_); clear hE a; intro a hE
      refine p_cons (s_still p22_4_24 hE (wn_some g22_4_23 rfl rfl) rfl (st_fieldAddr Try.underlying50 rfl tS3 rfl rfl) ?_); clear hE a; intro a hE
      refine p_cons (s_still p22_4_25 hE (wn_some g22_4_23 rfl rfl) rfl (st_load1 tA3 rfl ((blk_cell B_g1 0).trans rfl)) ?_); clear hE a; intro a hE
      refine p_cons (s_call (xs := [Operand.tmp 41]) (args := [Value.int .i64 (k : Int)]) p22_4_26 hE (wn_some g22_4_23 rfl rfl) rfl rfl Try.func60 cl60 (texts_any (k : Int) _) ?_)
      rintro e w17 ⟨rfl, hk⟩
      replace B_g1 := kp_blk B_g1 hk (fun h => h)
      replace B_g6 := kp_blk B_g6 hk (fun h => h)
      replace K_0 := K_0.then_ hk (fun _ h => h.elim)
      replace K_s5 := K_s5.then_ hk (fun _ h => h.elim)
      refine ⟨_, rfl, ?_⟩; clear hE a; intro a hE
      refine p_cons (s_still p22_4_27 hE (wn_some g22_4_23 rfl rfl) rfl (st_not rfl rfl) ?_); clear hE a; intro a hE
      refine p_cons (s_still p22_4_28 hE (wn_some g22_4_18 rfl rfl) rfl (st_pick rfl rfl) ?_); clear hE a; intro a hE
      refine q0 p22_4_29 hE (st_pick rfl rfl) ?_; clear hE a; intro a hE
      refine q0 p22_4_30 hE (st_assign rfl) ?_; clear hE a; intro a hE
      refine p_nil (x_norm ?_)
      rcases Bool.eq_false_or_eq_true (decide ((k : Int) = 2)) with hb18 | hb18
      ·
       rw [hb18] at hE
       have hb18P := of_decide_eq_true hb18
       refine c_cond (t := false) hE rfl ?_
       refine wp_skip (x_normB (x_norm ?_))
       have n3 : ¬ (¬ nb = (sizesF k).length ∨ (¬ eqL (b16 f) (b16 (fun _ => 0)) = true ∧ ¬ addrF k = true) ∨ (0 < tn ∧ ¬ k = 2)) := by
        intro h; rcases h with h | h | h
        · omega
        · exact h.2 hb15
        · exact absurd (of_decide_eq_true hb18) (by omega)
       exact ctail k hk9 B T A1 cb tn ct c1 nb l f (addrF k) w w17 g1 B_g1 g6 B_g6 n_g1_g6 K_0 F_B (fun W' hk => F_1 W' (K_s5.then_ hk (fun _ h => h.elim))) (by omega) n3 a (En.sub hE ⟨rfl, rfl, rfl, trivial⟩)
      ·
       rw [hb18] at hE
       have hb18P := of_decide_eq_false hb18
       refine c_cond (t := true) hE rfl ?_
       refine c_reg R22_5_l ?_
       refine q0 p22_5_0 hE (st_assign rfl) ?_; clear hE a; intro a hE
       refine p_nil (x_norm (wp_ret (x_retB (x_ret ?_))))
       refine ret_one (v := Value.int .i64 3) rfl hE (.tmp rfl .nil) ?_
       have ec : chkO (k : Int) nb l f tn = chkF k nb l f tn := by unfold chkO; rw [if_pos ⟨by omega, by omega⟩]; rfl
       exact ⟨by rw [ec]; unfold chkF; rw [if_pos (Or.inr (Or.inr ⟨by omega, fun h => absurd (of_decide_eq_false hb18) (by omega)⟩))], K_0⟩
     ·
      refine p_cons (s_still (v := Value.bool false) p22_4_22 hE (wn_some g22_4_18 rfl rfl) rfl (st_gtr rfl rfl (decide_eq_false hc16)) ?_); clear hE a; intro a hE
      refine p_cons (s_still p22_4_23 hE (wn_some g22_4_18 rfl rfl) rfl (st_move rfl) ?_); clear hE a; intro a hE
      refine p_cons (s_skip p22_4_24 hE (wn_some g22_4_23 rfl rfl) rfl ?_); clear hE a; intro a hE
      refine p_cons (s_skip p22_4_25 hE (wn_some g22_4_23 rfl rfl) rfl ?_); clear hE a; intro a hE
      refine p_cons (s_skip p22_4_26 hE (wn_some g22_4_23 rfl rfl) rfl ?_); clear hE a; intro a hE
      refine p_cons (s_skip p22_4_27 hE (wn_some g22_4_23 rfl rfl) rfl ?_); clear hE a; intro a hE
      refine p_cons (s_still p22_4_28 hE (wn_some g22_4_18 rfl rfl) rfl (st_pick rfl rfl) ?_); clear hE a; intro a hE
      refine q0 p22_4_29 hE (st_pick rfl rfl) ?_; clear hE a; intro a hE
      refine q0 p22_4_30 hE (st_assign rfl) ?_; clear hE a; intro a hE
      refine p_nil (x_norm ?_)
      refine c_cond (t := false) hE rfl ?_
      refine wp_skip (x_normB (x_norm ?_))
      have n3 : ¬ (¬ nb = (sizesF k).length ∨ (¬ eqL (b16 f) (b16 (fun _ => 0)) = true ∧ ¬ addrF k = true) ∨ (0 < tn ∧ ¬ k = 2)) := by
       intro h; rcases h with h | h | h
       · omega
       · exact h.2 hb15
       · exact absurd h.1 (by omega)
      exact ctail k hk9 B T A1 cb tn ct c1 nb l f (addrF k) w w9 g1 B_g1 g6 B_g6 n_g1_g6 K_0 F_B (fun W' hk => F_1 W' (K_s5.then_ hk (fun _ h => h.elim))) (by omega) n3 a (En.sub hE ⟨rfl, rfl, rfl, trivial⟩)
    ·
     rw [hb15] at hE
     refine p_cons (s_skip p22_4_19 hE (wn_some g22_4_18 rfl rfl) rfl ?_); clear hE a; intro a hE
     refine p_cons (s_skip p22_4_20 hE (wn_some g22_4_18 rfl rfl) rfl ?_); clear hE a; intro a hE
     refine p_cons (s_skip p22_4_21 hE (wn_some g22_4_18 rfl rfl) rfl ?_); clear hE a; intro a hE
     refine p_cons (s_skip p22_4_22 hE (wn_some g22_4_18 rfl rfl) rfl ?_); clear hE a; intro a hE
     refine p_cons (s_skip p22_4_23 hE (wn_some g22_4_18 rfl rfl) rfl ?_); clear hE a; intro a hE
     refine p_cons (s_skip p22_4_24 hE (wn_undef g22_4_23 rfl) rfl ?_); clear hE a; intro a hE
     refine p_cons (s_skip p22_4_25 hE (wn_undef g22_4_23 rfl) rfl ?_); clear hE a; intro a hE
     refine p_cons (s_skip p22_4_26 hE (wn_undef g22_4_23 rfl) rfl ?_); clear hE a; intro a hE
     refine p_cons (s_skip p22_4_27 hE (wn_undef g22_4_23 rfl) rfl ?_); clear hE a; intro a hE
     refine p_cons (s_skip p22_4_28 hE (wn_some g22_4_18 rfl rfl) rfl ?_); clear hE a; intro a hE
     refine q0 p22_4_29 hE (st_pick rfl rfl) ?_; clear hE a; intro a hE
     refine q0 p22_4_30 hE (st_assign rfl) ?_; clear hE a; intro a hE
     refine p_nil (x_norm ?_)
     refine c_cond (t := true) hE rfl ?_
     refine c_reg R22_5_l ?_
     refine q0 p22_5_0 hE (st_assign rfl) ?_; clear hE a; intro a hE
     refine p_nil (x_norm (wp_ret (x_retB (x_ret ?_))))
     refine ret_one (v := Value.int .i64 3) rfl hE (.tmp rfl .nil) ?_
     have ec : chkO (k : Int) nb l f tn = chkF k nb l f tn := by unfold chkO; rw [if_pos ⟨by omega, by omega⟩]; rfl
     exact ⟨by rw [ec]; unfold chkF; rw [if_pos (Or.inr (Or.inl ⟨hc11, by rw [hb15]; decide⟩))], K_0⟩
  ·
   refine p_cons (s_still (v := Value.bool true) p22_4_6 hE wn_none rfl (st_neq rfl rfl (by rw [decide_eq_false hc10]; rfl)) ?_); clear hE a; intro a hE
   refine q0 p22_4_7 hE (st_move rfl) ?_; clear hE a; intro a hE
   refine p_cons (s_skip p22_4_8 hE (wn_some g22_4_7 rfl rfl) rfl ?_); clear hE a; intro a hE
   refine p_cons (s_skip p22_4_9 hE (wn_some g22_4_7 rfl rfl) rfl ?_); clear hE a; intro a hE
   refine p_cons (s_skip p22_4_10 hE (wn_some g22_4_7 rfl rfl) rfl ?_); clear hE a; intro a hE
   refine p_cons (s_skip p22_4_11 hE (wn_some g22_4_7 rfl rfl) rfl ?_); clear hE a; intro a hE
   refine p_cons (s_skip p22_4_12 hE (wn_some g22_4_7 rfl rfl) rfl ?_); clear hE a; intro a hE
   refine p_cons (s_skip p22_4_13 hE (wn_undef g22_4_12 rfl) rfl ?_); clear hE a; intro a hE
   refine p_cons (s_skip p22_4_14 hE (wn_undef g22_4_12 rfl) rfl ?_); clear hE a; intro a hE
   refine p_cons (s_skip p22_4_15 hE (wn_undef g22_4_12 rfl) rfl ?_); clear hE a; intro a hE
   refine p_cons (s_skip p22_4_16 hE (wn_some g22_4_7 rfl rfl) rfl ?_); clear hE a; intro a hE
   refine q0 p22_4_17 hE (st_pick rfl rfl) ?_; clear hE a; intro a hE
   refine q0 p22_4_18 hE (st_move rfl) ?_; clear hE a; intro a hE
   refine p_cons (s_skip p22_4_19 hE (wn_some g22_4_18 rfl rfl) rfl ?_); clear hE a; intro a hE
   refine p_cons (s_skip p22_4_20 hE (wn_some g22_4_18 rfl rfl) rfl ?_); clear hE a; intro a hE
   refine p_cons (s_skip p22_4_21 hE (wn_some g22_4_18 rfl rfl) rfl ?_); clear hE a; intro a hE
   refine p_cons (s_skip p22_4_22 hE (wn_some g22_4_18 rfl rfl) rfl ?_); clear hE a; intro a hE
   refine p_cons (s_skip p22_4_23 hE (wn_some g22_4_18 rfl rfl) rfl ?_); clear hE a; intro a hE
   refine p_cons (s_skip p22_4_24 hE (wn_undef g22_4_23 rfl) rfl ?_); clear hE a; intro a hE
   refine p_cons (s_skip p22_4_25 hE (wn_undef g22_4_23 rfl) rfl ?_); clear hE a; intro a hE
   refine p_cons (s_skip p22_4_26 hE (wn_undef g22_4_23 rfl) rfl ?_); clear hE a; intro a hE
   refine p_cons (s_skip p22_4_27 hE (wn_undef g22_4_23 rfl) rfl ?_); clear hE a; intro a hE
   refine p_cons (s_skip p22_4_28 hE (wn_some g22_4_18 rfl rfl) rfl ?_); clear hE a; intro a hE
   refine q0 p22_4_29 hE (st_pick rfl rfl) ?_; clear hE a; intro a hE
   refine q0 p22_4_30 hE (st_assign rfl) ?_; clear hE a; intro a hE
   refine p_nil (x_norm ?_)
   refine c_cond (t := true) hE rfl ?_
   refine c_reg R22_5_l ?_
   refine q0 p22_5_0 hE (st_assign rfl) ?_; clear hE a; intro a hE
   refine p_nil (x_norm (wp_ret (x_retB (x_ret ?_))))
   refine ret_one (v := Value.int .i64 3) rfl hE (.tmp rfl .nil) ?_
   have ec : chkO (k : Int) nb l f tn = chkF k nb l f tn := by unfold chkO; rw [if_pos ⟨by omega, by omega⟩]; rfl
   exact ⟨by rw [ec]; unfold chkF; rw [if_pos (Or.inl (fun h => hc10 (by omega)))], K_0⟩
 ·
  refine c_reg R22_1_l ?_
  refine q0 p22_1_0 hE (st_fieldAddr Try.underlying50 rfl tS3 rfl rfl) ?_; clear hE a; intro a hE
  refine q0 p22_1_1 hE (st_load1 tA3 rfl ((blk_cell B_g1 0).trans rfl)) ?_; clear hE a; intro a hE
  refine p_cons (s_call (xs := [Operand.tmp 8]) (args := [Value.int .i64 kk]) p22_1_2 hE wn_none rfl rfl Try.func57 cl57 (of_no kk hKN _) ?_)
  rintro e w19 ⟨rfl, hk⟩
  replace B_g1 := kp_blk B_g1 hk (fun h => h)
  replace K_0 := K_0.then_ hk (fun _ h => h.elim)
  refine ⟨_, rfl, ?_⟩; clear hE a; intro a hE
  refine q0 p22_1_3 hE (st_move rfl) ?_; clear hE a; intro a hE
  refine q0 p22_1_4 hE (st_extract rfl rfl) ?_; clear hE a; intro a hE
  refine q0 p22_1_5 hE (st_extract rfl rfl) ?_; clear hE a; intro a hE
  refine p_cons (s_alloc p22_1_6 hE wn_none rfl tZ116 ?_)
  clear hE a; intro g20 w21 z22 B_g20 hk a hE
  replace B_g20 : w21.heap[g20]? = some (.cells #[Value.string ByteArray.empty, Value.slice none 0 0, Value.int .i64 0, Value.bool false, Value.int .i64 0, Value.int .i64 0] 116 (0, 0)) := B_g20
  have n_g1_g20 : g1 ≠ g20 := ne_new B_g1 z22
  have z_0_g20 := Nat.le_trans K_0.kept.1 z22
  replace B_g1 := kp_blk B_g1 hk (fun h => h)
  replace K_0 := K_0.then_ hk (fun _ h => h.elim)
  clear hk
  refine p_cons (s_store (off := 0) (k := 6) (cs' := #[Value.string ByteArray.empty, Value.slice none 0 0, Value.int .i64 0, Value.bool false, Value.int .i64 0, Value.int .i64 0]) p22_1_7 hE wn_none tS116 rfl rfl rfl rfl B_g20 (Nat.le_of_ble_eq_true rfl) rfl ?_)
  intro w23 B_g20' hk
  replace B_g1 := kp_blk B_g1 hk n_g1_g20
  replace K_0 := K_0.then_ hk (fun k h => by rw [show k = g20 from h]; exact Or.inr z_0_g20)
  replace B_g20 := B_g20'
  clear hk
  refine q0 p22_1_8 hE (st_assign rfl) ?_; clear hE a; intro a hE
  refine p_nil (x_norm (wp_seq (wp_block (c_reg R22_2_l ?_))))
  refine q0 p22_2_0 hE (st_move rfl) ?_; clear hE a; intro a hE
  refine q0 p22_2_1 hE (st_not rfl rfl) ?_; clear hE a; intro a hE
  refine q0 p22_2_2 hE (st_assign rfl) ?_; clear hE a; intro a hE
  refine p_nil (x_norm ?_)
  refine c_cond (t := true) hE rfl ?_
  refine c_reg R22_3_l ?_
  refine q0 p22_3_0 hE (st_assign rfl) ?_; clear hE a; intro a hE
  refine p_nil (x_norm (wp_ret (x_retB (x_ret ?_))))
  refine ret_one (v := Value.int .i64 6) rfl hE (.tmp rfl .nil) ?_
  exact ⟨by unfold chkO; rw [if_neg hKN], K_0⟩
end Go.Proofs.Ytgpclehnomkbmaa.Oc
