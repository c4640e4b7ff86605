/- The law MetricRises, walked. -/
import Derived.Test.YtpnpfapdjdcnbaaMet
set_option maxRecDepth 100000
set_option linter.unusedVariables false
set_option linter.unusedSimpArgs false
namespace Go.Proofs.Ytpnpfapdjdcnbaa.MRis
open Go.RowKit Go.Proofs.YtpnpfapdjdcnbaaW.PrintWords Go.Proofs.Ytpnpfapdjdcnbaa.Ds Go.Proofs.Ytpnpfapdjdcnbaa.Fl Go.Proofs.Ytpnpfapdjdcnbaa.Me
open Go.Proofs.Ytpnpfapdjdcnbaa.Pk (Kp)
open Ieee (double)
theorem R3_0_l : List.range (regOf Try.f3 0).size = [0] := by kernel_rfl
theorem R3_1_l : List.range (regOf Try.f3 1).size = [0, 1, 2, 3, 4, 5, 6] := by kernel_rfl
theorem R3_2_l : List.range (regOf Try.f3 2).size = [0, 1, 2, 3, 4, 5, 6] := by kernel_rfl
theorem R3_3_l : List.range (regOf Try.f3 3).size = [0, 1, 2, 3, 4, 5, 6, 7, 8, 9, 10, 11, 12, 13, 14, 15] := by kernel_rfl
theorem R3_4_l : List.range (regOf Try.f3 4).size = [0] := by kernel_rfl
theorem R3_5_l : List.range (regOf Try.f3 5).size = [0, 1, 2, 3, 4, 5, 6, 7, 8, 9, 10, 11, 12, 13, 14, 15, 16, 17, 18, 19, 20, 21, 22, 23, 24, 25, 26] := by kernel_rfl
theorem body3 : Try.f3.body = some (.seq (.region 0 (regOf Try.f3 0) false) (.seq (.region 1 (regOf Try.f3 1) false) (.seq (.region 2 (regOf Try.f3 2) false) (.seq (.seq (.region 3 (regOf Try.f3 3) false) (.cond (Operand.tmp 34) (.seq (.region 4 (regOf Try.f3 4) false) (.ret)) (.skip))) (.seq (.region 5 (regOf Try.f3 5) false) (.ret)))))) := by kernel_rfl
theorem p3_0_0 : pj (regOf Try.f3 0) 0 = some (some 4, Op.assign (Operand.const (Value.bool false)), 4, none) := by kernel_rfl
theorem p3_1_0 : pj (regOf Try.f3 1) 0 = some (some 10, Op.move (Operand.tmp 0), 22, none) := by kernel_rfl
theorem p3_1_1 : pj (regOf Try.f3 1) 1 = some (some 11, Op.call { callee := Callee.value (Operand.func 10), args := #[Operand.tmp 10], argTypes := #[22] }, 24, none) := by kernel_rfl
theorem cl10 : callable Try.f10 = true := by kernel_rfl
theorem p3_1_2 : pj (regOf Try.f3 1) 2 = some (some 9, Op.move (Operand.tmp 11), 24, none) := by kernel_rfl
theorem p3_1_3 : pj (regOf Try.f3 1) 3 = some (some 12, Op.extract (Operand.tmp 9) 0, 3, none) := by kernel_rfl
theorem p3_1_4 : pj (regOf Try.f3 1) 4 = some (some 13, Op.extract (Operand.tmp 9) 1, 23, none) := by kernel_rfl
theorem p3_1_5 : pj (regOf Try.f3 1) 5 = some (some 5, Op.assign (Operand.tmp 12), 3, none) := by kernel_rfl
theorem p3_1_6 : pj (regOf Try.f3 1) 6 = some (some 6, Op.assign (Operand.tmp 13), 23, none) := by kernel_rfl
theorem p3_2_0 : pj (regOf Try.f3 2) 0 = some (some 15, Op.move (Operand.tmp 1), 22, none) := by kernel_rfl
theorem p3_2_1 : pj (regOf Try.f3 2) 1 = some (some 16, Op.call { callee := Callee.value (Operand.func 10), args := #[Operand.tmp 15], argTypes := #[22] }, 24, none) := by kernel_rfl
theorem p3_2_2 : pj (regOf Try.f3 2) 2 = some (some 14, Op.move (Operand.tmp 16), 24, none) := by kernel_rfl
theorem p3_2_3 : pj (regOf Try.f3 2) 3 = some (some 17, Op.extract (Operand.tmp 14) 0, 3, none) := by kernel_rfl
theorem p3_2_4 : pj (regOf Try.f3 2) 4 = some (some 18, Op.extract (Operand.tmp 14) 1, 23, none) := by kernel_rfl
theorem p3_2_5 : pj (regOf Try.f3 2) 5 = some (some 7, Op.assign (Operand.tmp 17), 3, none) := by kernel_rfl
theorem p3_2_6 : pj (regOf Try.f3 2) 6 = some (some 8, Op.assign (Operand.tmp 18), 23, none) := by kernel_rfl
theorem p3_3_0 : pj (regOf Try.f3 3) 0 = some (some 19, Op.move (Operand.tmp 0), 22, none) := by kernel_rfl
theorem p3_3_1 : pj (regOf Try.f3 3) 1 = some (some 20, Op.move (Operand.tmp 1), 22, none) := by kernel_rfl
theorem p3_3_2 : pj (regOf Try.f3 3) 2 = some (some 21, Op.call { callee := Callee.value (Operand.func 11), args := #[Operand.tmp 19, Operand.tmp 20], argTypes := #[22, 22] }, 4, none) := by kernel_rfl
theorem cl11 : callable Try.f11 = true := by kernel_rfl
theorem p3_3_3 : pj (regOf Try.f3 3) 3 = some (some 22, Op.move (Operand.tmp 21), 4, none) := by kernel_rfl
theorem p3_3_4 : pj (regOf Try.f3 3) 4 = some (some 23, Op.move (Operand.tmp 6), 23, some (3, true)) := by kernel_rfl
theorem g3_3_3 : dstOf (regOf Try.f3 3) 3 = some 22 := by kernel_rfl
theorem p3_3_5 : pj (regOf Try.f3 3) 5 = some (some 24, Op.binOp BinOp.neq 23 (Operand.tmp 23) (Operand.const (Value.int IntKind.i64 0)) 23, 4, some (3, true)) := by kernel_rfl
theorem p3_3_6 : pj (regOf Try.f3 3) 6 = some (some 25, Op.move (Operand.tmp 24), 4, some (3, true)) := by kernel_rfl
theorem p3_3_7 : pj (regOf Try.f3 3) 7 = some (some 26, Op.move (Operand.tmp 8), 23, some (6, false)) := by kernel_rfl
theorem g3_3_6 : dstOf (regOf Try.f3 3) 6 = some 25 := by kernel_rfl
theorem p3_3_8 : pj (regOf Try.f3 3) 8 = some (some 27, Op.binOp BinOp.eql 23 (Operand.tmp 26) (Operand.const (Value.int IntKind.i64 0)) 23, 4, some (6, false)) := by kernel_rfl
theorem p3_3_9 : pj (regOf Try.f3 3) 9 = some (some 28, Op.move (Operand.tmp 27), 4, some (6, false)) := by kernel_rfl
theorem p3_3_10 : pj (regOf Try.f3 3) 10 = some (some 29, Op.move (Operand.tmp 5), 3, some (9, true)) := by kernel_rfl
theorem g3_3_9 : dstOf (regOf Try.f3 3) 9 = some 28 := by kernel_rfl
theorem p3_3_11 : pj (regOf Try.f3 3) 11 = some (some 30, Op.move (Operand.tmp 7), 3, some (9, true)) := by kernel_rfl
theorem p3_3_12 : pj (regOf Try.f3 3) 12 = some (some 31, Op.binOp BinOp.gtr 3 (Operand.tmp 29) (Operand.tmp 30) 3, 4, some (9, true)) := by kernel_rfl
theorem p3_3_13 : pj (regOf Try.f3 3) 13 = some (some 32, Op.pick (Operand.tmp 28) (Operand.tmp 31) (Operand.const (Value.bool false)), 4, some (6, false)) := by kernel_rfl
theorem p3_3_14 : pj (regOf Try.f3 3) 14 = some (some 33, Op.pick (Operand.tmp 25) (Operand.const (Value.bool true)) (Operand.tmp 32), 4, some (3, true)) := by kernel_rfl
theorem p3_3_15 : pj (regOf Try.f3 3) 15 = some (some 34, Op.pick (Operand.tmp 22) (Operand.tmp 33) (Operand.const (Value.bool false)), 4, none) := by kernel_rfl
theorem p3_5_0 : pj (regOf Try.f3 5) 0 = some (some 35, Op.call { callee := Callee.value (Operand.func 12), args := #[], argTypes := #[] }, 4, none) := by kernel_rfl
theorem cl12 : callable Try.f12 = true := by kernel_rfl
theorem p3_5_1 : pj (regOf Try.f3 5) 1 = some (some 36, Op.move (Operand.tmp 35), 4, none) := by kernel_rfl
theorem p3_5_2 : pj (regOf Try.f3 5) 2 = some (some 37, Op.move (Operand.tmp 6), 23, some (1, true)) := by kernel_rfl
theorem g3_5_1 : dstOf (regOf Try.f3 5) 1 = some 36 := by kernel_rfl
theorem p3_5_3 : pj (regOf Try.f3 5) 3 = some (some 38, Op.binOp BinOp.eql 23 (Operand.tmp 37) (Operand.const (Value.int IntKind.i64 0)) 23, 4, some (1, true)) := by kernel_rfl
theorem p3_5_4 : pj (regOf Try.f3 5) 4 = some (some 39, Op.move (Operand.tmp 0), 22, some (1, true)) := by kernel_rfl
theorem p3_5_5 : pj (regOf Try.f3 5) 5 = some (some 40, Op.binOp BinOp.geq 22 (Operand.tmp 39) (Operand.const (Value.float FloatKind.f64 4607182418800017408)) 22, 4, some (1, true)) := by kernel_rfl
theorem p3_5_6 : pj (regOf Try.f3 5) 6 = some (some 41, Op.binOp BinOp.eql 4 (Operand.tmp 38) (Operand.tmp 40) 4, 4, some (1, true)) := by kernel_rfl
theorem p3_5_7 : pj (regOf Try.f3 5) 7 = some (some 42, Op.pick (Operand.tmp 36) (Operand.tmp 41) (Operand.const (Value.bool false)), 4, none) := by kernel_rfl
theorem p3_5_8 : pj (regOf Try.f3 5) 8 = some (some 43, Op.move (Operand.tmp 42), 4, none) := by kernel_rfl
theorem p3_5_9 : pj (regOf Try.f3 5) 9 = some (some 44, Op.move (Operand.tmp 8), 23, some (8, true)) := by kernel_rfl
theorem g3_5_8 : dstOf (regOf Try.f3 5) 8 = some 43 := by kernel_rfl
theorem p3_5_10 : pj (regOf Try.f3 5) 10 = some (some 45, Op.binOp BinOp.eql 23 (Operand.tmp 44) (Operand.const (Value.int IntKind.i64 0)) 23, 4, some (8, true)) := by kernel_rfl
theorem p3_5_11 : pj (regOf Try.f3 5) 11 = some (some 46, Op.move (Operand.tmp 1), 22, some (8, true)) := by kernel_rfl
theorem p3_5_12 : pj (regOf Try.f3 5) 12 = some (some 47, Op.binOp BinOp.geq 22 (Operand.tmp 46) (Operand.const (Value.float FloatKind.f64 4607182418800017408)) 22, 4, some (8, true)) := by kernel_rfl
theorem p3_5_13 : pj (regOf Try.f3 5) 13 = some (some 48, Op.binOp BinOp.eql 4 (Operand.tmp 45) (Operand.tmp 47) 4, 4, some (8, true)) := by kernel_rfl
theorem p3_5_14 : pj (regOf Try.f3 5) 14 = some (some 49, Op.pick (Operand.tmp 43) (Operand.tmp 48) (Operand.const (Value.bool false)), 4, none) := by kernel_rfl
theorem p3_5_15 : pj (regOf Try.f3 5) 15 = some (some 50, Op.move (Operand.tmp 49), 4, none) := by kernel_rfl
theorem p3_5_16 : pj (regOf Try.f3 5) 16 = some (some 51, Op.move (Operand.tmp 0), 22, some (15, true)) := by kernel_rfl
theorem g3_5_15 : dstOf (regOf Try.f3 5) 15 = some 50 := by kernel_rfl
theorem p3_5_17 : pj (regOf Try.f3 5) 17 = some (some 52, Op.move (Operand.tmp 1), 22, some (15, true)) := by kernel_rfl
theorem p3_5_18 : pj (regOf Try.f3 5) 18 = some (some 53, Op.call { callee := Callee.value (Operand.func 11), args := #[Operand.tmp 51, Operand.tmp 52], argTypes := #[22, 22] }, 4, some (15, true)) := by kernel_rfl
theorem p3_5_19 : pj (regOf Try.f3 5) 19 = some (some 54, Op.move (Operand.tmp 53), 4, some (15, true)) := by kernel_rfl
theorem p3_5_20 : pj (regOf Try.f3 5) 20 = some (some 55, Op.move (Operand.tmp 1), 22, some (19, true)) := by kernel_rfl
theorem g3_5_19 : dstOf (regOf Try.f3 5) 19 = some 54 := by kernel_rfl
theorem p3_5_21 : pj (regOf Try.f3 5) 21 = some (some 56, Op.move (Operand.tmp 0), 22, some (19, true)) := by kernel_rfl
theorem p3_5_22 : pj (regOf Try.f3 5) 22 = some (some 57, Op.call { callee := Callee.value (Operand.func 11), args := #[Operand.tmp 55, Operand.tmp 56], argTypes := #[22, 22] }, 4, some (19, true)) := by kernel_rfl
theorem p3_5_23 : pj (regOf Try.f3 5) 23 = some (some 58, Op.pick (Operand.tmp 54) (Operand.tmp 57) (Operand.const (Value.bool false)), 4, some (15, true)) := by kernel_rfl
theorem p3_5_24 : pj (regOf Try.f3 5) 24 = some (some 59, Op.unOp UnOp.not 4 (Operand.tmp 58), 4, some (15, true)) := by kernel_rfl
theorem p3_5_25 : pj (regOf Try.f3 5) 25 = some (some 60, Op.pick (Operand.tmp 50) (Operand.tmp 59) (Operand.const (Value.bool false)), 4, none) := by kernel_rfl
theorem p3_5_26 : pj (regOf Try.f3 5) 26 = some (some 4, Op.assign (Operand.tmp 60), 4, none) := by kernel_rfl
set_option maxHeartbeats 4000000 in
theorem walk (x y : Nat) (w : World) (w0 : (Lit.float .f64 x).wf = true) (w1 : (Lit.float .f64 y).wf = true) : Calls Try.prog 3 #[.float .f64 x, .float .f64 y] w fun e w' => e = .returned (.bool true) ∧ Below w.heap.size w w' := by
  have K_0 := Kp.refl w (fun _ => False)
  replace w0 := wf_lt w0
  replace w1 := wf_lt w1
  refine enter (args := [Value.float .f64 x, Value.float .f64 y]) (n := 61) Try.func3 body3 rfl rfl rfl ?_
  intro a hE
  refine c_reg R3_0_l ?_
  refine p_cons (s_still p3_0_0 hE wn_none rfl (st_assign rfl) ?_)
  clear hE a; intro a hE
  refine p_nil ?_
  refine x_norm ?_
  rcases Decidable.em (right x) with hR_x | hR_x
  ·
    rcases Decidable.em (right y) with hR_y | hR_y
    ·
      rcases Decidable.em (x < y) with hLT | hLT
      ·
        refine c_reg R3_1_l ?_
        refine p_cons (s_still p3_1_0 hE wn_none rfl (st_move rfl) ?_)
        clear hE a; intro a hE
        refine p_cons (s_call (xs := [Operand.tmp 10]) (args := [Value.float .f64 x]) p3_1_1 hE wn_none rfl rfl Try.func10 cl10 (cost_any x (by omega) _ 0 rfl (by unfold costE; rw [if_pos hR_x]) _) ?_)
        rintro e w1 ⟨rfl, hk⟩
        replace K_0 := K_0.then_ hk (fun _ h => h.elim)
        refine ⟨_, rfl, ?_⟩
        clear hE a; intro a hE
        refine p_cons (s_still p3_1_2 hE wn_none rfl (st_move rfl) ?_)
        clear hE a; intro a hE
        refine p_cons (s_still p3_1_3 hE wn_none rfl (st_extract rfl rfl) ?_)
        clear hE a; intro a hE
        refine p_cons (s_still p3_1_4 hE wn_none rfl (st_extract rfl rfl) ?_)
        clear hE a; intro a hE
        refine p_cons (s_still p3_1_5 hE wn_none rfl (st_assign rfl) ?_)
        clear hE a; intro a hE
        refine p_cons (s_still p3_1_6 hE wn_none rfl (st_assign rfl) ?_)
        clear hE a; intro a hE
        refine p_nil ?_
        refine x_norm ?_
        refine c_reg R3_2_l ?_
        refine p_cons (s_still p3_2_0 hE wn_none rfl (st_move rfl) ?_)
        clear hE a; intro a hE
        refine p_cons (s_call (xs := [Operand.tmp 15]) (args := [Value.float .f64 y]) p3_2_1 hE wn_none rfl rfl Try.func10 cl10 (cost_any y (by omega) _ 0 rfl (by unfold costE; rw [if_pos hR_y]) _) ?_)
        rintro e w2 ⟨rfl, hk⟩
        replace K_0 := K_0.then_ hk (fun _ h => h.elim)
        refine ⟨_, rfl, ?_⟩
        clear hE a; intro a hE
        refine p_cons (s_still p3_2_2 hE wn_none rfl (st_move rfl) ?_)
        clear hE a; intro a hE
        refine p_cons (s_still p3_2_3 hE wn_none rfl (st_extract rfl rfl) ?_)
        clear hE a; intro a hE
        refine p_cons (s_still p3_2_4 hE wn_none rfl (st_extract rfl rfl) ?_)
        clear hE a; intro a hE
        refine p_cons (s_still p3_2_5 hE wn_none rfl (st_assign rfl) ?_)
        clear hE a; intro a hE
        refine p_cons (s_still p3_2_6 hE wn_none rfl (st_assign rfl) ?_)
        clear hE a; intro a hE
        refine p_nil ?_
        refine x_norm ?_
        refine wp_seq ?_
        refine c_reg R3_3_l ?_
        refine p_cons (s_still p3_3_0 hE wn_none rfl (st_move rfl) ?_)
        clear hE a; intro a hE
        refine p_cons (s_still p3_3_1 hE wn_none rfl (st_move rfl) ?_)
        clear hE a; intro a hE
        refine p_cons (s_call (xs := [Operand.tmp 19, Operand.tmp 20]) (args := [Value.float .f64 x, Value.float .f64 y]) p3_3_2 hE wn_none rfl rfl Try.func11 cl11 (better_any x y (by omega) (by omega) true (decide_eq_true ⟨hR_x, .inr hLT⟩) _) ?_)
        rintro e w3 ⟨rfl, hk⟩
        replace K_0 := K_0.then_ hk (fun _ h => h.elim)
        refine ⟨_, rfl, ?_⟩
        clear hE a; intro a hE
        refine p_cons (s_still p3_3_3 hE wn_none rfl (st_move rfl) ?_)
        clear hE a; intro a hE
        refine p_cons (s_still p3_3_4 hE (wn_some g3_3_3 rfl rfl) rfl (st_move rfl) ?_)
        clear hE a; intro a hE
        refine p_cons (s_still p3_3_5 hE (wn_some g3_3_3 rfl rfl) rfl (st_neq (b := false) rfl rfl (by decide)) ?_)
        clear hE a; intro a hE
        refine p_cons (s_still p3_3_6 hE (wn_some g3_3_3 rfl rfl) rfl (st_move rfl) ?_)
        clear hE a; intro a hE
        refine p_cons (s_still p3_3_7 hE (wn_some g3_3_6 rfl rfl) rfl (st_move rfl) ?_)
        clear hE a; intro a hE
        refine p_cons (s_still p3_3_8 hE (wn_some g3_3_6 rfl rfl) rfl (st_eql (b := true) rfl rfl (by decide)) ?_)
        clear hE a; intro a hE
        refine p_cons (s_still p3_3_9 hE (wn_some g3_3_6 rfl rfl) rfl (st_move rfl) ?_)
        clear hE a; intro a hE
        refine p_cons (s_still p3_3_10 hE (wn_some g3_3_9 rfl rfl) rfl (st_move rfl) ?_)
        clear hE a; intro a hE
        refine p_cons (s_still p3_3_11 hE (wn_some g3_3_9 rfl rfl) rfl (st_move rfl) ?_)
        clear hE a; intro a hE
        refine p_cons (s_still p3_3_12 hE (wn_some g3_3_9 rfl rfl) rfl (st_gtr (b := false) rfl rfl (decide_eq_false (by have := costV_mono hR_x hR_y (Nat.le_of_lt hLT); omega))) ?_)
        clear hE a; intro a hE
        refine p_cons (s_still p3_3_13 hE (wn_some g3_3_6 rfl rfl) rfl (st_pick rfl rfl) ?_)
        clear hE a; intro a hE
        refine p_cons (s_still p3_3_14 hE (wn_some g3_3_3 rfl rfl) rfl (st_pick rfl rfl) ?_)
        clear hE a; intro a hE
        refine p_cons (s_still p3_3_15 hE wn_none rfl (st_pick rfl rfl) ?_)
        clear hE a; intro a hE
        refine p_nil ?_
        refine x_norm ?_
        refine c_cond (t := false) hE rfl ?_
        refine wp_skip ?_
        refine x_norm ?_
        refine c_reg R3_5_l ?_
        refine p_cons (s_call (xs := []) (args := []) p3_5_0 hE wn_none rfl rfl Try.func12 cl12 (known_any  _) ?_)
        rintro e w4 ⟨rfl, hk⟩
        replace K_0 := K_0.then_ hk (fun _ h => h.elim)
        refine ⟨_, rfl, ?_⟩
        clear hE a; intro a hE
        refine p_cons (s_still p3_5_1 hE wn_none rfl (st_move rfl) ?_)
        clear hE a; intro a hE
        refine p_cons (s_still p3_5_2 hE (wn_some g3_5_1 rfl rfl) rfl (st_move rfl) ?_)
        clear hE a; intro a hE
        refine p_cons (s_still p3_5_3 hE (wn_some g3_5_1 rfl rfl) rfl (st_eql (b := true) rfl rfl (by decide)) ?_)
        clear hE a; intro a hE
        refine p_cons (s_still p3_5_4 hE (wn_some g3_5_1 rfl rfl) rfl (st_move rfl) ?_)
        clear hE a; intro a hE
        refine p_cons (s_still p3_5_5 hE (wn_some g3_5_1 rfl rfl) rfl (st_fgeq (b := true) rfl rfl (by rw [ge_one (by omega)]; exact decide_eq_true hR_x)) ?_)
        clear hE a; intro a hE
        refine p_cons (s_still p3_5_6 hE (wn_some g3_5_1 rfl rfl) rfl (st_eqlB Try.underlying4 rfl rfl rfl) ?_)
        clear hE a; intro a hE
        refine p_cons (s_still p3_5_7 hE wn_none rfl (st_pick rfl rfl) ?_)
        clear hE a; intro a hE
        refine p_cons (s_still p3_5_8 hE wn_none rfl (st_move rfl) ?_)
        clear hE a; intro a hE
        refine p_cons (s_still p3_5_9 hE (wn_some g3_5_8 rfl rfl) rfl (st_move rfl) ?_)
        clear hE a; intro a hE
        refine p_cons (s_still p3_5_10 hE (wn_some g3_5_8 rfl rfl) rfl (st_eql (b := true) rfl rfl (by decide)) ?_)
        clear hE a; intro a hE
        refine p_cons (s_still p3_5_11 hE (wn_some g3_5_8 rfl rfl) rfl (st_move rfl) ?_)
        clear hE a; intro a hE
        refine p_cons (s_still p3_5_12 hE (wn_some g3_5_8 rfl rfl) rfl (st_fgeq (b := true) rfl rfl (by rw [ge_one (by omega)]; exact decide_eq_true hR_y)) ?_)
        clear hE a; intro a hE
        refine p_cons (s_still p3_5_13 hE (wn_some g3_5_8 rfl rfl) rfl (st_eqlB Try.underlying4 rfl rfl rfl) ?_)
        clear hE a; intro a hE
        refine p_cons (s_still p3_5_14 hE wn_none rfl (st_pick rfl rfl) ?_)
        clear hE a; intro a hE
        refine p_cons (s_still p3_5_15 hE wn_none rfl (st_move rfl) ?_)
        clear hE a; intro a hE
        refine p_cons (s_still p3_5_16 hE (wn_some g3_5_15 rfl rfl) rfl (st_move rfl) ?_)
        clear hE a; intro a hE
        refine p_cons (s_still p3_5_17 hE (wn_some g3_5_15 rfl rfl) rfl (st_move rfl) ?_)
        clear hE a; intro a hE
        refine p_cons (s_call (xs := [Operand.tmp 51, Operand.tmp 52]) (args := [Value.float .f64 x, Value.float .f64 y]) p3_5_18 hE (wn_some g3_5_15 rfl rfl) rfl rfl Try.func11 cl11 (better_any x y (by omega) (by omega) true (decide_eq_true ⟨hR_x, .inr hLT⟩) _) ?_)
        rintro e w5 ⟨rfl, hk⟩
        replace K_0 := K_0.then_ hk (fun _ h => h.elim)
        refine ⟨_, rfl, ?_⟩
        clear hE a; intro a hE
        refine p_cons (s_still p3_5_19 hE (wn_some g3_5_15 rfl rfl) rfl (st_move rfl) ?_)
        clear hE a; intro a hE
        refine p_cons (s_still p3_5_20 hE (wn_some g3_5_19 rfl rfl) rfl (st_move rfl) ?_)
        clear hE a; intro a hE
        refine p_cons (s_still p3_5_21 hE (wn_some g3_5_19 rfl rfl) rfl (st_move rfl) ?_)
        clear hE a; intro a hE
        refine p_cons (s_call (xs := [Operand.tmp 55, Operand.tmp 56]) (args := [Value.float .f64 y, Value.float .f64 x]) p3_5_22 hE (wn_some g3_5_19 rfl rfl) rfl rfl Try.func11 cl11 (better_any y x (by omega) (by omega) false (decide_eq_false (fun h => h.2.elim (fun h2 => h2 hR_x) (fun h2 => by omega))) _) ?_)
        rintro e w6 ⟨rfl, hk⟩
        replace K_0 := K_0.then_ hk (fun _ h => h.elim)
        refine ⟨_, rfl, ?_⟩
        clear hE a; intro a hE
        refine p_cons (s_still p3_5_23 hE (wn_some g3_5_15 rfl rfl) rfl (st_pick rfl rfl) ?_)
        clear hE a; intro a hE
        refine p_cons (s_still p3_5_24 hE (wn_some g3_5_15 rfl rfl) rfl (st_not rfl rfl) ?_)
        clear hE a; intro a hE
        refine p_cons (s_still p3_5_25 hE wn_none rfl (st_pick rfl rfl) ?_)
        clear hE a; intro a hE
        refine p_cons (s_still p3_5_26 hE wn_none rfl (st_assign rfl) ?_)
        clear hE a; intro a hE
        refine p_nil ?_
        refine x_norm ?_
        refine wp_ret ?_
        refine ret_one (v := Value.bool true) rfl hE (.tmp rfl .nil) ?_
        exact ⟨rfl, K_0.to (Nat.le_refl _) (fun _ h => h.elim)⟩
      ·
        refine c_reg R3_1_l ?_
        refine p_cons (s_still p3_1_0 hE wn_none rfl (st_move rfl) ?_)
        clear hE a; intro a hE
        refine p_cons (s_call (xs := [Operand.tmp 10]) (args := [Value.float .f64 x]) p3_1_1 hE wn_none rfl rfl Try.func10 cl10 (cost_any x (by omega) _ 0 rfl (by unfold costE; rw [if_pos hR_x]) _) ?_)
        rintro e w7 ⟨rfl, hk⟩
        replace K_0 := K_0.then_ hk (fun _ h => h.elim)
        refine ⟨_, rfl, ?_⟩
        clear hE a; intro a hE
        refine p_cons (s_still p3_1_2 hE wn_none rfl (st_move rfl) ?_)
        clear hE a; intro a hE
        refine p_cons (s_still p3_1_3 hE wn_none rfl (st_extract rfl rfl) ?_)
        clear hE a; intro a hE
        refine p_cons (s_still p3_1_4 hE wn_none rfl (st_extract rfl rfl) ?_)
        clear hE a; intro a hE
        refine p_cons (s_still p3_1_5 hE wn_none rfl (st_assign rfl) ?_)
        clear hE a; intro a hE
        refine p_cons (s_still p3_1_6 hE wn_none rfl (st_assign rfl) ?_)
        clear hE a; intro a hE
        refine p_nil ?_
        refine x_norm ?_
        refine c_reg R3_2_l ?_
        refine p_cons (s_still p3_2_0 hE wn_none rfl (st_move rfl) ?_)
        clear hE a; intro a hE
        refine p_cons (s_call (xs := [Operand.tmp 15]) (args := [Value.float .f64 y]) p3_2_1 hE wn_none rfl rfl Try.func10 cl10 (cost_any y (by omega) _ 0 rfl (by unfold costE; rw [if_pos hR_y]) _) ?_)
        rintro e w8 ⟨rfl, hk⟩
        replace K_0 := K_0.then_ hk (fun _ h => h.elim)
        refine ⟨_, rfl, ?_⟩
        clear hE a; intro a hE
        refine p_cons (s_still p3_2_2 hE wn_none rfl (st_move rfl) ?_)
        clear hE a; intro a hE
        refine p_cons (s_still p3_2_3 hE wn_none rfl (st_extract rfl rfl) ?_)
        clear hE a; intro a hE
        refine p_cons (s_still p3_2_4 hE wn_none rfl (st_extract rfl rfl) ?_)
        clear hE a; intro a hE
        refine p_cons (s_still p3_2_5 hE wn_none rfl (st_assign rfl) ?_)
        clear hE a; intro a hE
        refine p_cons (s_still p3_2_6 hE wn_none rfl (st_assign rfl) ?_)
        clear hE a; intro a hE
        refine p_nil ?_
        refine x_norm ?_
        refine wp_seq ?_
        refine c_reg R3_3_l ?_
        refine p_cons (s_still p3_3_0 hE wn_none rfl (st_move rfl) ?_)
        clear hE a; intro a hE
        refine p_cons (s_still p3_3_1 hE wn_none rfl (st_move rfl) ?_)
        clear hE a; intro a hE
        refine p_cons (s_call (xs := [Operand.tmp 19, Operand.tmp 20]) (args := [Value.float .f64 x, Value.float .f64 y]) p3_3_2 hE wn_none rfl rfl Try.func11 cl11 (better_any x y (by omega) (by omega) false (decide_eq_false (fun h => h.2.elim (fun h2 => h2 hR_y) hLT)) _) ?_)
        rintro e w9 ⟨rfl, hk⟩
        replace K_0 := K_0.then_ hk (fun _ h => h.elim)
        refine ⟨_, rfl, ?_⟩
        clear hE a; intro a hE
        refine p_cons (s_still p3_3_3 hE wn_none rfl (st_move rfl) ?_)
        clear hE a; intro a hE
        refine p_cons (s_skip p3_3_4 hE (wn_some g3_3_3 rfl rfl) rfl ?_)
        clear hE a; intro a hE
        refine p_cons (s_skip p3_3_5 hE (wn_some g3_3_3 rfl rfl) rfl ?_)
        clear hE a; intro a hE
        refine p_cons (s_skip p3_3_6 hE (wn_some g3_3_3 rfl rfl) rfl ?_)
        clear hE a; intro a hE
        refine p_cons (s_skip p3_3_7 hE (wn_undef g3_3_6 rfl) rfl ?_)
        clear hE a; intro a hE
        refine p_cons (s_skip p3_3_8 hE (wn_undef g3_3_6 rfl) rfl ?_)
        clear hE a; intro a hE
        refine p_cons (s_skip p3_3_9 hE (wn_undef g3_3_6 rfl) rfl ?_)
        clear hE a; intro a hE
        refine p_cons (s_skip p3_3_10 hE (wn_undef g3_3_9 rfl) rfl ?_)
        clear hE a; intro a hE
        refine p_cons (s_skip p3_3_11 hE (wn_undef g3_3_9 rfl) rfl ?_)
        clear hE a; intro a hE
        refine p_cons (s_skip p3_3_12 hE (wn_undef g3_3_9 rfl) rfl ?_)
        clear hE a; intro a hE
        refine p_cons (s_skip p3_3_13 hE (wn_undef g3_3_6 rfl) rfl ?_)
        clear hE a; intro a hE
        refine p_cons (s_skip p3_3_14 hE (wn_some g3_3_3 rfl rfl) rfl ?_)
        clear hE a; intro a hE
        refine p_cons (s_still p3_3_15 hE wn_none rfl (st_pick rfl rfl) ?_)
        clear hE a; intro a hE
        refine p_nil ?_
        refine x_norm ?_
        refine c_cond (t := false) hE rfl ?_
        refine wp_skip ?_
        refine x_norm ?_
        refine c_reg R3_5_l ?_
        refine p_cons (s_call (xs := []) (args := []) p3_5_0 hE wn_none rfl rfl Try.func12 cl12 (known_any  _) ?_)
        rintro e w10 ⟨rfl, hk⟩
        replace K_0 := K_0.then_ hk (fun _ h => h.elim)
        refine ⟨_, rfl, ?_⟩
        clear hE a; intro a hE
        refine p_cons (s_still p3_5_1 hE wn_none rfl (st_move rfl) ?_)
        clear hE a; intro a hE
        refine p_cons (s_still p3_5_2 hE (wn_some g3_5_1 rfl rfl) rfl (st_move rfl) ?_)
        clear hE a; intro a hE
        refine p_cons (s_still p3_5_3 hE (wn_some g3_5_1 rfl rfl) rfl (st_eql (b := true) rfl rfl (by decide)) ?_)
        clear hE a; intro a hE
        refine p_cons (s_still p3_5_4 hE (wn_some g3_5_1 rfl rfl) rfl (st_move rfl) ?_)
        clear hE a; intro a hE
        refine p_cons (s_still p3_5_5 hE (wn_some g3_5_1 rfl rfl) rfl (st_fgeq (b := true) rfl rfl (by rw [ge_one (by omega)]; exact decide_eq_true hR_x)) ?_)
        clear hE a; intro a hE
        refine p_cons (s_still p3_5_6 hE (wn_some g3_5_1 rfl rfl) rfl (st_eqlB Try.underlying4 rfl rfl rfl) ?_)
        clear hE a; intro a hE
        refine p_cons (s_still p3_5_7 hE wn_none rfl (st_pick rfl rfl) ?_)
        clear hE a; intro a hE
        refine p_cons (s_still p3_5_8 hE wn_none rfl (st_move rfl) ?_)
        clear hE a; intro a hE
        refine p_cons (s_still p3_5_9 hE (wn_some g3_5_8 rfl rfl) rfl (st_move rfl) ?_)
        clear hE a; intro a hE
        refine p_cons (s_still p3_5_10 hE (wn_some g3_5_8 rfl rfl) rfl (st_eql (b := true) rfl rfl (by decide)) ?_)
        clear hE a; intro a hE
        refine p_cons (s_still p3_5_11 hE (wn_some g3_5_8 rfl rfl) rfl (st_move rfl) ?_)
        clear hE a; intro a hE
        refine p_cons (s_still p3_5_12 hE (wn_some g3_5_8 rfl rfl) rfl (st_fgeq (b := true) rfl rfl (by rw [ge_one (by omega)]; exact decide_eq_true hR_y)) ?_)
        clear hE a; intro a hE
        refine p_cons (s_still p3_5_13 hE (wn_some g3_5_8 rfl rfl) rfl (st_eqlB Try.underlying4 rfl rfl rfl) ?_)
        clear hE a; intro a hE
        refine p_cons (s_still p3_5_14 hE wn_none rfl (st_pick rfl rfl) ?_)
        clear hE a; intro a hE
        refine p_cons (s_still p3_5_15 hE wn_none rfl (st_move rfl) ?_)
        clear hE a; intro a hE
        refine p_cons (s_still p3_5_16 hE (wn_some g3_5_15 rfl rfl) rfl (st_move rfl) ?_)
        clear hE a; intro a hE
        refine p_cons (s_still p3_5_17 hE (wn_some g3_5_15 rfl rfl) rfl (st_move rfl) ?_)
        clear hE a; intro a hE
        refine p_cons (s_call (xs := [Operand.tmp 51, Operand.tmp 52]) (args := [Value.float .f64 x, Value.float .f64 y]) p3_5_18 hE (wn_some g3_5_15 rfl rfl) rfl rfl Try.func11 cl11 (better_any x y (by omega) (by omega) false (decide_eq_false (fun h => h.2.elim (fun h2 => h2 hR_y) hLT)) _) ?_)
        rintro e w11 ⟨rfl, hk⟩
        replace K_0 := K_0.then_ hk (fun _ h => h.elim)
        refine ⟨_, rfl, ?_⟩
        clear hE a; intro a hE
        refine p_cons (s_still p3_5_19 hE (wn_some g3_5_15 rfl rfl) rfl (st_move rfl) ?_)
        clear hE a; intro a hE
        refine p_cons (s_skip p3_5_20 hE (wn_some g3_5_19 rfl rfl) rfl ?_)
        clear hE a; intro a hE
        refine p_cons (s_skip p3_5_21 hE (wn_some g3_5_19 rfl rfl) rfl ?_)
        clear hE a; intro a hE
        refine p_cons (s_skip p3_5_22 hE (wn_some g3_5_19 rfl rfl) rfl ?_)
        clear hE a; intro a hE
        refine p_cons (s_still p3_5_23 hE (wn_some g3_5_15 rfl rfl) rfl (st_pick rfl rfl) ?_)
        clear hE a; intro a hE
        refine p_cons (s_still p3_5_24 hE (wn_some g3_5_15 rfl rfl) rfl (st_not rfl rfl) ?_)
        clear hE a; intro a hE
        refine p_cons (s_still p3_5_25 hE wn_none rfl (st_pick rfl rfl) ?_)
        clear hE a; intro a hE
        refine p_cons (s_still p3_5_26 hE wn_none rfl (st_assign rfl) ?_)
        clear hE a; intro a hE
        refine p_nil ?_
        refine x_norm ?_
        refine wp_ret ?_
        refine ret_one (v := Value.bool true) rfl hE (.tmp rfl .nil) ?_
        exact ⟨rfl, K_0.to (Nat.le_refl _) (fun _ h => h.elim)⟩
    ·
      refine c_reg R3_1_l ?_
      refine p_cons (s_still p3_1_0 hE wn_none rfl (st_move rfl) ?_)
      clear hE a; intro a hE
      refine p_cons (s_call (xs := [Operand.tmp 10]) (args := [Value.float .f64 x]) p3_1_1 hE wn_none rfl rfl Try.func10 cl10 (cost_any x (by omega) _ 0 rfl (by unfold costE; rw [if_pos hR_x]) _) ?_)
      rintro e w12 ⟨rfl, hk⟩
      replace K_0 := K_0.then_ hk (fun _ h => h.elim)
      refine ⟨_, rfl, ?_⟩
      clear hE a; intro a hE
      refine p_cons (s_still p3_1_2 hE wn_none rfl (st_move rfl) ?_)
      clear hE a; intro a hE
      refine p_cons (s_still p3_1_3 hE wn_none rfl (st_extract rfl rfl) ?_)
      clear hE a; intro a hE
      refine p_cons (s_still p3_1_4 hE wn_none rfl (st_extract rfl rfl) ?_)
      clear hE a; intro a hE
      refine p_cons (s_still p3_1_5 hE wn_none rfl (st_assign rfl) ?_)
      clear hE a; intro a hE
      refine p_cons (s_still p3_1_6 hE wn_none rfl (st_assign rfl) ?_)
      clear hE a; intro a hE
      refine p_nil ?_
      refine x_norm ?_
      refine c_reg R3_2_l ?_
      refine p_cons (s_still p3_2_0 hE wn_none rfl (st_move rfl) ?_)
      clear hE a; intro a hE
      refine p_cons (s_call (xs := [Operand.tmp 15]) (args := [Value.float .f64 y]) p3_2_1 hE wn_none rfl rfl Try.func10 cl10 (cost_any y (by omega) _ 1 rfl (by unfold costE; rw [if_neg hR_y]) _) ?_)
      rintro e w13 ⟨rfl, hk⟩
      replace K_0 := K_0.then_ hk (fun _ h => h.elim)
      refine ⟨_, rfl, ?_⟩
      clear hE a; intro a hE
      refine p_cons (s_still p3_2_2 hE wn_none rfl (st_move rfl) ?_)
      clear hE a; intro a hE
      refine p_cons (s_still p3_2_3 hE wn_none rfl (st_extract rfl rfl) ?_)
      clear hE a; intro a hE
      refine p_cons (s_still p3_2_4 hE wn_none rfl (st_extract rfl rfl) ?_)
      clear hE a; intro a hE
      refine p_cons (s_still p3_2_5 hE wn_none rfl (st_assign rfl) ?_)
      clear hE a; intro a hE
      refine p_cons (s_still p3_2_6 hE wn_none rfl (st_assign rfl) ?_)
      clear hE a; intro a hE
      refine p_nil ?_
      refine x_norm ?_
      refine wp_seq ?_
      refine c_reg R3_3_l ?_
      refine p_cons (s_still p3_3_0 hE wn_none rfl (st_move rfl) ?_)
      clear hE a; intro a hE
      refine p_cons (s_still p3_3_1 hE wn_none rfl (st_move rfl) ?_)
      clear hE a; intro a hE
      refine p_cons (s_call (xs := [Operand.tmp 19, Operand.tmp 20]) (args := [Value.float .f64 x, Value.float .f64 y]) p3_3_2 hE wn_none rfl rfl Try.func11 cl11 (better_any x y (by omega) (by omega) true (decide_eq_true ⟨hR_x, .inl hR_y⟩) _) ?_)
      rintro e w14 ⟨rfl, hk⟩
      replace K_0 := K_0.then_ hk (fun _ h => h.elim)
      refine ⟨_, rfl, ?_⟩
      clear hE a; intro a hE
      refine p_cons (s_still p3_3_3 hE wn_none rfl (st_move rfl) ?_)
      clear hE a; intro a hE
      refine p_cons (s_still p3_3_4 hE (wn_some g3_3_3 rfl rfl) rfl (st_move rfl) ?_)
      clear hE a; intro a hE
      refine p_cons (s_still p3_3_5 hE (wn_some g3_3_3 rfl rfl) rfl (st_neq (b := false) rfl rfl (by decide)) ?_)
      clear hE a; intro a hE
      refine p_cons (s_still p3_3_6 hE (wn_some g3_3_3 rfl rfl) rfl (st_move rfl) ?_)
      clear hE a; intro a hE
      refine p_cons (s_still p3_3_7 hE (wn_some g3_3_6 rfl rfl) rfl (st_move rfl) ?_)
      clear hE a; intro a hE
      refine p_cons (s_still p3_3_8 hE (wn_some g3_3_6 rfl rfl) rfl (st_eql (b := false) rfl rfl (by decide)) ?_)
      clear hE a; intro a hE
      refine p_cons (s_still p3_3_9 hE (wn_some g3_3_6 rfl rfl) rfl (st_move rfl) ?_)
      clear hE a; intro a hE
      refine p_cons (s_skip p3_3_10 hE (wn_some g3_3_9 rfl rfl) rfl ?_)
      clear hE a; intro a hE
      refine p_cons (s_skip p3_3_11 hE (wn_some g3_3_9 rfl rfl) rfl ?_)
      clear hE a; intro a hE
      refine p_cons (s_skip p3_3_12 hE (wn_some g3_3_9 rfl rfl) rfl ?_)
      clear hE a; intro a hE
      refine p_cons (s_still p3_3_13 hE (wn_some g3_3_6 rfl rfl) rfl (st_pick rfl rfl) ?_)
      clear hE a; intro a hE
      refine p_cons (s_still p3_3_14 hE (wn_some g3_3_3 rfl rfl) rfl (st_pick rfl rfl) ?_)
      clear hE a; intro a hE
      refine p_cons (s_still p3_3_15 hE wn_none rfl (st_pick rfl rfl) ?_)
      clear hE a; intro a hE
      refine p_nil ?_
      refine x_norm ?_
      refine c_cond (t := false) hE rfl ?_
      refine wp_skip ?_
      refine x_norm ?_
      refine c_reg R3_5_l ?_
      refine p_cons (s_call (xs := []) (args := []) p3_5_0 hE wn_none rfl rfl Try.func12 cl12 (known_any  _) ?_)
      rintro e w15 ⟨rfl, hk⟩
      replace K_0 := K_0.then_ hk (fun _ h => h.elim)
      refine ⟨_, rfl, ?_⟩
      clear hE a; intro a hE
      refine p_cons (s_still p3_5_1 hE wn_none rfl (st_move rfl) ?_)
      clear hE a; intro a hE
      refine p_cons (s_still p3_5_2 hE (wn_some g3_5_1 rfl rfl) rfl (st_move rfl) ?_)
      clear hE a; intro a hE
      refine p_cons (s_still p3_5_3 hE (wn_some g3_5_1 rfl rfl) rfl (st_eql (b := true) rfl rfl (by decide)) ?_)
      clear hE a; intro a hE
      refine p_cons (s_still p3_5_4 hE (wn_some g3_5_1 rfl rfl) rfl (st_move rfl) ?_)
      clear hE a; intro a hE
      refine p_cons (s_still p3_5_5 hE (wn_some g3_5_1 rfl rfl) rfl (st_fgeq (b := true) rfl rfl (by rw [ge_one (by omega)]; exact decide_eq_true hR_x)) ?_)
      clear hE a; intro a hE
      refine p_cons (s_still p3_5_6 hE (wn_some g3_5_1 rfl rfl) rfl (st_eqlB Try.underlying4 rfl rfl rfl) ?_)
      clear hE a; intro a hE
      refine p_cons (s_still p3_5_7 hE wn_none rfl (st_pick rfl rfl) ?_)
      clear hE a; intro a hE
      refine p_cons (s_still p3_5_8 hE wn_none rfl (st_move rfl) ?_)
      clear hE a; intro a hE
      refine p_cons (s_still p3_5_9 hE (wn_some g3_5_8 rfl rfl) rfl (st_move rfl) ?_)
      clear hE a; intro a hE
      refine p_cons (s_still p3_5_10 hE (wn_some g3_5_8 rfl rfl) rfl (st_eql (b := false) rfl rfl (by decide)) ?_)
      clear hE a; intro a hE
      refine p_cons (s_still p3_5_11 hE (wn_some g3_5_8 rfl rfl) rfl (st_move rfl) ?_)
      clear hE a; intro a hE
      refine p_cons (s_still p3_5_12 hE (wn_some g3_5_8 rfl rfl) rfl (st_fgeq (b := false) rfl rfl (by rw [ge_one (by omega)]; exact decide_eq_false hR_y)) ?_)
      clear hE a; intro a hE
      refine p_cons (s_still p3_5_13 hE (wn_some g3_5_8 rfl rfl) rfl (st_eqlB Try.underlying4 rfl rfl rfl) ?_)
      clear hE a; intro a hE
      refine p_cons (s_still p3_5_14 hE wn_none rfl (st_pick rfl rfl) ?_)
      clear hE a; intro a hE
      refine p_cons (s_still p3_5_15 hE wn_none rfl (st_move rfl) ?_)
      clear hE a; intro a hE
      refine p_cons (s_still p3_5_16 hE (wn_some g3_5_15 rfl rfl) rfl (st_move rfl) ?_)
      clear hE a; intro a hE
      refine p_cons (s_still p3_5_17 hE (wn_some g3_5_15 rfl rfl) rfl (st_move rfl) ?_)
      clear hE a; intro a hE
      refine p_cons (s_call (xs := [Operand.tmp 51, Operand.tmp 52]) (args := [Value.float .f64 x, Value.float .f64 y]) p3_5_18 hE (wn_some g3_5_15 rfl rfl) rfl rfl Try.func11 cl11 (better_any x y (by omega) (by omega) true (decide_eq_true ⟨hR_x, .inl hR_y⟩) _) ?_)
      rintro e w16 ⟨rfl, hk⟩
      replace K_0 := K_0.then_ hk (fun _ h => h.elim)
      refine ⟨_, rfl, ?_⟩
      clear hE a; intro a hE
      refine p_cons (s_still p3_5_19 hE (wn_some g3_5_15 rfl rfl) rfl (st_move rfl) ?_)
      clear hE a; intro a hE
      refine p_cons (s_still p3_5_20 hE (wn_some g3_5_19 rfl rfl) rfl (st_move rfl) ?_)
      clear hE a; intro a hE
      refine p_cons (s_still p3_5_21 hE (wn_some g3_5_19 rfl rfl) rfl (st_move rfl) ?_)
      clear hE a; intro a hE
      refine p_cons (s_call (xs := [Operand.tmp 55, Operand.tmp 56]) (args := [Value.float .f64 y, Value.float .f64 x]) p3_5_22 hE (wn_some g3_5_19 rfl rfl) rfl rfl Try.func11 cl11 (better_any y x (by omega) (by omega) false (decide_eq_false (fun h => hR_y h.1)) _) ?_)
      rintro e w17 ⟨rfl, hk⟩
      replace K_0 := K_0.then_ hk (fun _ h => h.elim)
      refine ⟨_, rfl, ?_⟩
      clear hE a; intro a hE
      refine p_cons (s_still p3_5_23 hE (wn_some g3_5_15 rfl rfl) rfl (st_pick rfl rfl) ?_)
      clear hE a; intro a hE
      refine p_cons (s_still p3_5_24 hE (wn_some g3_5_15 rfl rfl) rfl (st_not rfl rfl) ?_)
      clear hE a; intro a hE
      refine p_cons (s_still p3_5_25 hE wn_none rfl (st_pick rfl rfl) ?_)
      clear hE a; intro a hE
      refine p_cons (s_still p3_5_26 hE wn_none rfl (st_assign rfl) ?_)
      clear hE a; intro a hE
      refine p_nil ?_
      refine x_norm ?_
      refine wp_ret ?_
      refine ret_one (v := Value.bool true) rfl hE (.tmp rfl .nil) ?_
      exact ⟨rfl, K_0.to (Nat.le_refl _) (fun _ h => h.elim)⟩
  ·
    rcases Decidable.em (right y) with hR_y | hR_y
    ·
      refine c_reg R3_1_l ?_
      refine p_cons (s_still p3_1_0 hE wn_none rfl (st_move rfl) ?_)
      clear hE a; intro a hE
      refine p_cons (s_call (xs := [Operand.tmp 10]) (args := [Value.float .f64 x]) p3_1_1 hE wn_none rfl rfl Try.func10 cl10 (cost_any x (by omega) _ 1 rfl (by unfold costE; rw [if_neg hR_x]) _) ?_)
      rintro e w18 ⟨rfl, hk⟩
      replace K_0 := K_0.then_ hk (fun _ h => h.elim)
      refine ⟨_, rfl, ?_⟩
      clear hE a; intro a hE
      refine p_cons (s_still p3_1_2 hE wn_none rfl (st_move rfl) ?_)
      clear hE a; intro a hE
      refine p_cons (s_still p3_1_3 hE wn_none rfl (st_extract rfl rfl) ?_)
      clear hE a; intro a hE
      refine p_cons (s_still p3_1_4 hE wn_none rfl (st_extract rfl rfl) ?_)
      clear hE a; intro a hE
      refine p_cons (s_still p3_1_5 hE wn_none rfl (st_assign rfl) ?_)
      clear hE a; intro a hE
      refine p_cons (s_still p3_1_6 hE wn_none rfl (st_assign rfl) ?_)
      clear hE a; intro a hE
      refine p_nil ?_
      refine x_norm ?_
      refine c_reg R3_2_l ?_
      refine p_cons (s_still p3_2_0 hE wn_none rfl (st_move rfl) ?_)
      clear hE a; intro a hE
      refine p_cons (s_call (xs := [Operand.tmp 15]) (args := [Value.float .f64 y]) p3_2_1 hE wn_none rfl rfl Try.func10 cl10 (cost_any y (by omega) _ 0 rfl (by unfold costE; rw [if_pos hR_y]) _) ?_)
      rintro e w19 ⟨rfl, hk⟩
      replace K_0 := K_0.then_ hk (fun _ h => h.elim)
      refine ⟨_, rfl, ?_⟩
      clear hE a; intro a hE
      refine p_cons (s_still p3_2_2 hE wn_none rfl (st_move rfl) ?_)
      clear hE a; intro a hE
      refine p_cons (s_still p3_2_3 hE wn_none rfl (st_extract rfl rfl) ?_)
      clear hE a; intro a hE
      refine p_cons (s_still p3_2_4 hE wn_none rfl (st_extract rfl rfl) ?_)
      clear hE a; intro a hE
      refine p_cons (s_still p3_2_5 hE wn_none rfl (st_assign rfl) ?_)
      clear hE a; intro a hE
      refine p_cons (s_still p3_2_6 hE wn_none rfl (st_assign rfl) ?_)
      clear hE a; intro a hE
      refine p_nil ?_
      refine x_norm ?_
      refine wp_seq ?_
      refine c_reg R3_3_l ?_
      refine p_cons (s_still p3_3_0 hE wn_none rfl (st_move rfl) ?_)
      clear hE a; intro a hE
      refine p_cons (s_still p3_3_1 hE wn_none rfl (st_move rfl) ?_)
      clear hE a; intro a hE
      refine p_cons (s_call (xs := [Operand.tmp 19, Operand.tmp 20]) (args := [Value.float .f64 x, Value.float .f64 y]) p3_3_2 hE wn_none rfl rfl Try.func11 cl11 (better_any x y (by omega) (by omega) false (decide_eq_false (fun h => hR_x h.1)) _) ?_)
      rintro e w20 ⟨rfl, hk⟩
      replace K_0 := K_0.then_ hk (fun _ h => h.elim)
      refine ⟨_, rfl, ?_⟩
      clear hE a; intro a hE
      refine p_cons (s_still p3_3_3 hE wn_none rfl (st_move rfl) ?_)
      clear hE a; intro a hE
      refine p_cons (s_skip p3_3_4 hE (wn_some g3_3_3 rfl rfl) rfl ?_)
      clear hE a; intro a hE
      refine p_cons (s_skip p3_3_5 hE (wn_some g3_3_3 rfl rfl) rfl ?_)
      clear hE a; intro a hE
      refine p_cons (s_skip p3_3_6 hE (wn_some g3_3_3 rfl rfl) rfl ?_)
      clear hE a; intro a hE
      refine p_cons (s_skip p3_3_7 hE (wn_undef g3_3_6 rfl) rfl ?_)
      clear hE a; intro a hE
      refine p_cons (s_skip p3_3_8 hE (wn_undef g3_3_6 rfl) rfl ?_)
      clear hE a; intro a hE
      refine p_cons (s_skip p3_3_9 hE (wn_undef g3_3_6 rfl) rfl ?_)
      clear hE a; intro a hE
      refine p_cons (s_skip p3_3_10 hE (wn_undef g3_3_9 rfl) rfl ?_)
      clear hE a; intro a hE
      refine p_cons (s_skip p3_3_11 hE (wn_undef g3_3_9 rfl) rfl ?_)
      clear hE a; intro a hE
      refine p_cons (s_skip p3_3_12 hE (wn_undef g3_3_9 rfl) rfl ?_)
      clear hE a; intro a hE
      refine p_cons (s_skip p3_3_13 hE (wn_undef g3_3_6 rfl) rfl ?_)
      clear hE a; intro a hE
      refine p_cons (s_skip p3_3_14 hE (wn_some g3_3_3 rfl rfl) rfl ?_)
      clear hE a; intro a hE
      refine p_cons (s_still p3_3_15 hE wn_none rfl (st_pick rfl rfl) ?_)
      clear hE a; intro a hE
      refine p_nil ?_
      refine x_norm ?_
      refine c_cond (t := false) hE rfl ?_
      refine wp_skip ?_
      refine x_norm ?_
      refine c_reg R3_5_l ?_
      refine p_cons (s_call (xs := []) (args := []) p3_5_0 hE wn_none rfl rfl Try.func12 cl12 (known_any  _) ?_)
      rintro e w21 ⟨rfl, hk⟩
      replace K_0 := K_0.then_ hk (fun _ h => h.elim)
      refine ⟨_, rfl, ?_⟩
      clear hE a; intro a hE
      refine p_cons (s_still p3_5_1 hE wn_none rfl (st_move rfl) ?_)
      clear hE a; intro a hE
      refine p_cons (s_still p3_5_2 hE (wn_some g3_5_1 rfl rfl) rfl (st_move rfl) ?_)
      clear hE a; intro a hE
      refine p_cons (s_still p3_5_3 hE (wn_some g3_5_1 rfl rfl) rfl (st_eql (b := false) rfl rfl (by decide)) ?_)
      clear hE a; intro a hE
      refine p_cons (s_still p3_5_4 hE (wn_some g3_5_1 rfl rfl) rfl (st_move rfl) ?_)
      clear hE a; intro a hE
      refine p_cons (s_still p3_5_5 hE (wn_some g3_5_1 rfl rfl) rfl (st_fgeq (b := false) rfl rfl (by rw [ge_one (by omega)]; exact decide_eq_false hR_x)) ?_)
      clear hE a; intro a hE
      refine p_cons (s_still p3_5_6 hE (wn_some g3_5_1 rfl rfl) rfl (st_eqlB Try.underlying4 rfl rfl rfl) ?_)
      clear hE a; intro a hE
      refine p_cons (s_still p3_5_7 hE wn_none rfl (st_pick rfl rfl) ?_)
      clear hE a; intro a hE
      refine p_cons (s_still p3_5_8 hE wn_none rfl (st_move rfl) ?_)
      clear hE a; intro a hE
      refine p_cons (s_still p3_5_9 hE (wn_some g3_5_8 rfl rfl) rfl (st_move rfl) ?_)
      clear hE a; intro a hE
      refine p_cons (s_still p3_5_10 hE (wn_some g3_5_8 rfl rfl) rfl (st_eql (b := true) rfl rfl (by decide)) ?_)
      clear hE a; intro a hE
      refine p_cons (s_still p3_5_11 hE (wn_some g3_5_8 rfl rfl) rfl (st_move rfl) ?_)
      clear hE a; intro a hE
      refine p_cons (s_still p3_5_12 hE (wn_some g3_5_8 rfl rfl) rfl (st_fgeq (b := true) rfl rfl (by rw [ge_one (by omega)]; exact decide_eq_true hR_y)) ?_)
      clear hE a; intro a hE
      refine p_cons (s_still p3_5_13 hE (wn_some g3_5_8 rfl rfl) rfl (st_eqlB Try.underlying4 rfl rfl rfl) ?_)
      clear hE a; intro a hE
      refine p_cons (s_still p3_5_14 hE wn_none rfl (st_pick rfl rfl) ?_)
      clear hE a; intro a hE
      refine p_cons (s_still p3_5_15 hE wn_none rfl (st_move rfl) ?_)
      clear hE a; intro a hE
      refine p_cons (s_still p3_5_16 hE (wn_some g3_5_15 rfl rfl) rfl (st_move rfl) ?_)
      clear hE a; intro a hE
      refine p_cons (s_still p3_5_17 hE (wn_some g3_5_15 rfl rfl) rfl (st_move rfl) ?_)
      clear hE a; intro a hE
      refine p_cons (s_call (xs := [Operand.tmp 51, Operand.tmp 52]) (args := [Value.float .f64 x, Value.float .f64 y]) p3_5_18 hE (wn_some g3_5_15 rfl rfl) rfl rfl Try.func11 cl11 (better_any x y (by omega) (by omega) false (decide_eq_false (fun h => hR_x h.1)) _) ?_)
      rintro e w22 ⟨rfl, hk⟩
      replace K_0 := K_0.then_ hk (fun _ h => h.elim)
      refine ⟨_, rfl, ?_⟩
      clear hE a; intro a hE
      refine p_cons (s_still p3_5_19 hE (wn_some g3_5_15 rfl rfl) rfl (st_move rfl) ?_)
      clear hE a; intro a hE
      refine p_cons (s_skip p3_5_20 hE (wn_some g3_5_19 rfl rfl) rfl ?_)
      clear hE a; intro a hE
      refine p_cons (s_skip p3_5_21 hE (wn_some g3_5_19 rfl rfl) rfl ?_)
      clear hE a; intro a hE
      refine p_cons (s_skip p3_5_22 hE (wn_some g3_5_19 rfl rfl) rfl ?_)
      clear hE a; intro a hE
      refine p_cons (s_still p3_5_23 hE (wn_some g3_5_15 rfl rfl) rfl (st_pick rfl rfl) ?_)
      clear hE a; intro a hE
      refine p_cons (s_still p3_5_24 hE (wn_some g3_5_15 rfl rfl) rfl (st_not rfl rfl) ?_)
      clear hE a; intro a hE
      refine p_cons (s_still p3_5_25 hE wn_none rfl (st_pick rfl rfl) ?_)
      clear hE a; intro a hE
      refine p_cons (s_still p3_5_26 hE wn_none rfl (st_assign rfl) ?_)
      clear hE a; intro a hE
      refine p_nil ?_
      refine x_norm ?_
      refine wp_ret ?_
      refine ret_one (v := Value.bool true) rfl hE (.tmp rfl .nil) ?_
      exact ⟨rfl, K_0.to (Nat.le_refl _) (fun _ h => h.elim)⟩
    ·
      refine c_reg R3_1_l ?_
      refine p_cons (s_still p3_1_0 hE wn_none rfl (st_move rfl) ?_)
      clear hE a; intro a hE
      refine p_cons (s_call (xs := [Operand.tmp 10]) (args := [Value.float .f64 x]) p3_1_1 hE wn_none rfl rfl Try.func10 cl10 (cost_any x (by omega) _ 1 rfl (by unfold costE; rw [if_neg hR_x]) _) ?_)
      rintro e w23 ⟨rfl, hk⟩
      replace K_0 := K_0.then_ hk (fun _ h => h.elim)
      refine ⟨_, rfl, ?_⟩
      clear hE a; intro a hE
      refine p_cons (s_still p3_1_2 hE wn_none rfl (st_move rfl) ?_)
      clear hE a; intro a hE
      refine p_cons (s_still p3_1_3 hE wn_none rfl (st_extract rfl rfl) ?_)
      clear hE a; intro a hE
      refine p_cons (s_still p3_1_4 hE wn_none rfl (st_extract rfl rfl) ?_)
      clear hE a; intro a hE
      refine p_cons (s_still p3_1_5 hE wn_none rfl (st_assign rfl) ?_)
      clear hE a; intro a hE
      refine p_cons (s_still p3_1_6 hE wn_none rfl (st_assign rfl) ?_)
      clear hE a; intro a hE
      refine p_nil ?_
      refine x_norm ?_
      refine c_reg R3_2_l ?_
      refine p_cons (s_still p3_2_0 hE wn_none rfl (st_move rfl) ?_)
      clear hE a; intro a hE
      refine p_cons (s_call (xs := [Operand.tmp 15]) (args := [Value.float .f64 y]) p3_2_1 hE wn_none rfl rfl Try.func10 cl10 (cost_any y (by omega) _ 1 rfl (by unfold costE; rw [if_neg hR_y]) _) ?_)
      rintro e w24 ⟨rfl, hk⟩
      replace K_0 := K_0.then_ hk (fun _ h => h.elim)
      refine ⟨_, rfl, ?_⟩
      clear hE a; intro a hE
      refine p_cons (s_still p3_2_2 hE wn_none rfl (st_move rfl) ?_)
      clear hE a; intro a hE
      refine p_cons (s_still p3_2_3 hE wn_none rfl (st_extract rfl rfl) ?_)
      clear hE a; intro a hE
      refine p_cons (s_still p3_2_4 hE wn_none rfl (st_extract rfl rfl) ?_)
      clear hE a; intro a hE
      refine p_cons (s_still p3_2_5 hE wn_none rfl (st_assign rfl) ?_)
      clear hE a; intro a hE
      refine p_cons (s_still p3_2_6 hE wn_none rfl (st_assign rfl) ?_)
      clear hE a; intro a hE
      refine p_nil ?_
      refine x_norm ?_
      refine wp_seq ?_
      refine c_reg R3_3_l ?_
      refine p_cons (s_still p3_3_0 hE wn_none rfl (st_move rfl) ?_)
      clear hE a; intro a hE
      refine p_cons (s_still p3_3_1 hE wn_none rfl (st_move rfl) ?_)
      clear hE a; intro a hE
      refine p_cons (s_call (xs := [Operand.tmp 19, Operand.tmp 20]) (args := [Value.float .f64 x, Value.float .f64 y]) p3_3_2 hE wn_none rfl rfl Try.func11 cl11 (better_any x y (by omega) (by omega) false (decide_eq_false (fun h => hR_x h.1)) _) ?_)
      rintro e w25 ⟨rfl, hk⟩
      replace K_0 := K_0.then_ hk (fun _ h => h.elim)
      refine ⟨_, rfl, ?_⟩
      clear hE a; intro a hE
      refine p_cons (s_still p3_3_3 hE wn_none rfl (st_move rfl) ?_)
      clear hE a; intro a hE
      refine p_cons (s_skip p3_3_4 hE (wn_some g3_3_3 rfl rfl) rfl ?_)
      clear hE a; intro a hE
      refine p_cons (s_skip p3_3_5 hE (wn_some g3_3_3 rfl rfl) rfl ?_)
      clear hE a; intro a hE
      refine p_cons (s_skip p3_3_6 hE (wn_some g3_3_3 rfl rfl) rfl ?_)
      clear hE a; intro a hE
      refine p_cons (s_skip p3_3_7 hE (wn_undef g3_3_6 rfl) rfl ?_)
      clear hE a; intro a hE
      refine p_cons (s_skip p3_3_8 hE (wn_undef g3_3_6 rfl) rfl ?_)
      clear hE a; intro a hE
      refine p_cons (s_skip p3_3_9 hE (wn_undef g3_3_6 rfl) rfl ?_)
      clear hE a; intro a hE
      refine p_cons (s_skip p3_3_10 hE (wn_undef g3_3_9 rfl) rfl ?_)
      clear hE a; intro a hE
      refine p_cons (s_skip p3_3_11 hE (wn_undef g3_3_9 rfl) rfl ?_)
      clear hE a; intro a hE
      refine p_cons (s_skip p3_3_12 hE (wn_undef g3_3_9 rfl) rfl ?_)
      clear hE a; intro a hE
      refine p_cons (s_skip p3_3_13 hE (wn_undef g3_3_6 rfl) rfl ?_)
      clear hE a; intro a hE
      refine p_cons (s_skip p3_3_14 hE (wn_some g3_3_3 rfl rfl) rfl ?_)
      clear hE a; intro a hE
      refine p_cons (s_still p3_3_15 hE wn_none rfl (st_pick rfl rfl) ?_)
      clear hE a; intro a hE
      refine p_nil ?_
      refine x_norm ?_
      refine c_cond (t := false) hE rfl ?_
      refine wp_skip ?_
      refine x_norm ?_
      refine c_reg R3_5_l ?_
      refine p_cons (s_call (xs := []) (args := []) p3_5_0 hE wn_none rfl rfl Try.func12 cl12 (known_any  _) ?_)
      rintro e w26 ⟨rfl, hk⟩
      replace K_0 := K_0.then_ hk (fun _ h => h.elim)
      refine ⟨_, rfl, ?_⟩
      clear hE a; intro a hE
      refine p_cons (s_still p3_5_1 hE wn_none rfl (st_move rfl) ?_)
      clear hE a; intro a hE
      refine p_cons (s_still p3_5_2 hE (wn_some g3_5_1 rfl rfl) rfl (st_move rfl) ?_)
      clear hE a; intro a hE
      refine p_cons (s_still p3_5_3 hE (wn_some g3_5_1 rfl rfl) rfl (st_eql (b := false) rfl rfl (by decide)) ?_)
      clear hE a; intro a hE
      refine p_cons (s_still p3_5_4 hE (wn_some g3_5_1 rfl rfl) rfl (st_move rfl) ?_)
      clear hE a; intro a hE
      refine p_cons (s_still p3_5_5 hE (wn_some g3_5_1 rfl rfl) rfl (st_fgeq (b := false) rfl rfl (by rw [ge_one (by omega)]; exact decide_eq_false hR_x)) ?_)
      clear hE a; intro a hE
      refine p_cons (s_still p3_5_6 hE (wn_some g3_5_1 rfl rfl) rfl (st_eqlB Try.underlying4 rfl rfl rfl) ?_)
      clear hE a; intro a hE
      refine p_cons (s_still p3_5_7 hE wn_none rfl (st_pick rfl rfl) ?_)
      clear hE a; intro a hE
      refine p_cons (s_still p3_5_8 hE wn_none rfl (st_move rfl) ?_)
      clear hE a; intro a hE
      refine p_cons (s_still p3_5_9 hE (wn_some g3_5_8 rfl rfl) rfl (st_move rfl) ?_)
      clear hE a; intro a hE
      refine p_cons (s_still p3_5_10 hE (wn_some g3_5_8 rfl rfl) rfl (st_eql (b := false) rfl rfl (by decide)) ?_)
      clear hE a; intro a hE
      refine p_cons (s_still p3_5_11 hE (wn_some g3_5_8 rfl rfl) rfl (st_move rfl) ?_)
      clear hE a; intro a hE
      refine p_cons (s_still p3_5_12 hE (wn_some g3_5_8 rfl rfl) rfl (st_fgeq (b := false) rfl rfl (by rw [ge_one (by omega)]; exact decide_eq_false hR_y)) ?_)
      clear hE a; intro a hE
      refine p_cons (s_still p3_5_13 hE (wn_some g3_5_8 rfl rfl) rfl (st_eqlB Try.underlying4 rfl rfl rfl) ?_)
      clear hE a; intro a hE
      refine p_cons (s_still p3_5_14 hE wn_none rfl (st_pick rfl rfl) ?_)
      clear hE a; intro a hE
      refine p_cons (s_still p3_5_15 hE wn_none rfl (st_move rfl) ?_)
      clear hE a; intro a hE
      refine p_cons (s_still p3_5_16 hE (wn_some g3_5_15 rfl rfl) rfl (st_move rfl) ?_)
      clear hE a; intro a hE
      refine p_cons (s_still p3_5_17 hE (wn_some g3_5_15 rfl rfl) rfl (st_move rfl) ?_)
      clear hE a; intro a hE
      refine p_cons (s_call (xs := [Operand.tmp 51, Operand.tmp 52]) (args := [Value.float .f64 x, Value.float .f64 y]) p3_5_18 hE (wn_some g3_5_15 rfl rfl) rfl rfl Try.func11 cl11 (better_any x y (by omega) (by omega) false (decide_eq_false (fun h => hR_x h.1)) _) ?_)
      rintro e w27 ⟨rfl, hk⟩
      replace K_0 := K_0.then_ hk (fun _ h => h.elim)
      refine ⟨_, rfl, ?_⟩
      clear hE a; intro a hE
      refine p_cons (s_still p3_5_19 hE (wn_some g3_5_15 rfl rfl) rfl (st_move rfl) ?_)
      clear hE a; intro a hE
      refine p_cons (s_skip p3_5_20 hE (wn_some g3_5_19 rfl rfl) rfl ?_)
      clear hE a; intro a hE
      refine p_cons (s_skip p3_5_21 hE (wn_some g3_5_19 rfl rfl) rfl ?_)
      clear hE a; intro a hE
      refine p_cons (s_skip p3_5_22 hE (wn_some g3_5_19 rfl rfl) rfl ?_)
      clear hE a; intro a hE
      refine p_cons (s_still p3_5_23 hE (wn_some g3_5_15 rfl rfl) rfl (st_pick rfl rfl) ?_)
      clear hE a; intro a hE
      refine p_cons (s_still p3_5_24 hE (wn_some g3_5_15 rfl rfl) rfl (st_not rfl rfl) ?_)
      clear hE a; intro a hE
      refine p_cons (s_still p3_5_25 hE wn_none rfl (st_pick rfl rfl) ?_)
      clear hE a; intro a hE
      refine p_cons (s_still p3_5_26 hE wn_none rfl (st_assign rfl) ?_)
      clear hE a; intro a hE
      refine p_nil ?_
      refine x_norm ?_
      refine wp_ret ?_
      refine ret_one (v := Value.bool true) rfl hE (.tmp rfl .nil) ?_
      exact ⟨rfl, K_0.to (Nat.le_refl _) (fun _ h => h.elim)⟩
end Go.Proofs.Ytpnpfapdjdcnbaa.MRis
