/- The law MetricCosts, walked. -/
import Derived.Test.YtpnpfapdjdcnbaaMet
set_option maxRecDepth 100000
set_option linter.unusedVariables false
set_option linter.unusedSimpArgs false
namespace Go.Proofs.Ytpnpfapdjdcnbaa.MCos
open Go.RowKit Go.Proofs.YtpnpfapdjdcnbaaW.PrintWords Go.Proofs.Ytpnpfapdjdcnbaa.Ds Go.Proofs.Ytpnpfapdjdcnbaa.Fl Go.Proofs.Ytpnpfapdjdcnbaa.Me
open Go.Proofs.Ytpnpfapdjdcnbaa.Pk (Kp)
open Ieee (double)
theorem R14_0_l : List.range (regOf Try.f14 0).size = [0] := by kernel_rfl
theorem R14_1_l : List.range (regOf Try.f14 1).size = [0, 1, 2] := by kernel_rfl
theorem body14 : Try.f14.body = some (.seq (.region 0 (regOf Try.f14 0) false) (.seq (.region 1 (regOf Try.f14 1) false) (.ret))) := by kernel_rfl
theorem p14_0_0 : pj (regOf Try.f14 0) 0 = some (some 2, Op.assign (Operand.const (Value.bool false)), 4, none) := by kernel_rfl
theorem p14_1_0 : pj (regOf Try.f14 1) 0 = some (some 3, Op.move (Operand.tmp 0), 22, none) := by kernel_rfl
theorem p14_1_1 : pj (regOf Try.f14 1) 1 = some (some 4, Op.binOp BinOp.geq 22 (Operand.tmp 3) (Operand.const (Value.float FloatKind.f64 4607182418800017408)) 22, 4, none) := by kernel_rfl
theorem p14_1_2 : pj (regOf Try.f14 1) 2 = some (some 2, Op.assign (Operand.tmp 4), 4, none) := by kernel_rfl
set_option maxHeartbeats 4000000 in
theorem rright_any (x : Nat) (hx : x < 18446744073709551616) (b : Bool) (hb : decide (right x) = b) (w : World) : Calls Try.prog 14 #[.float .f64 x] w fun e w' => e = .returned (.bool b) ∧ Kp w w' (fun _ => False) := by
  have K_0 := Kp.refl w (fun _ => False)
  refine enter (args := [Value.float .f64 x]) (n := 5) Try.func14 body14 rfl rfl rfl ?_
  intro a hE
  refine c_reg R14_0_l ?_
  refine p_cons (s_still p14_0_0 hE wn_none rfl (st_assign rfl) ?_)
  clear hE a; intro a hE
  refine p_nil ?_
  refine x_norm ?_
  refine c_reg R14_1_l ?_
  refine p_cons (s_still p14_1_0 hE wn_none rfl (st_move rfl) ?_)
  clear hE a; intro a hE
  refine p_cons (s_still p14_1_1 hE wn_none rfl (st_fgeq (b := b) rfl rfl (by rw [ge_one hx]; exact hb)) ?_)
  clear hE a; intro a hE
  refine p_cons (s_still p14_1_2 hE wn_none rfl (st_assign rfl) ?_)
  clear hE a; intro a hE
  refine p_nil ?_
  refine x_norm ?_
  refine wp_ret ?_
  refine ret_one (v := Value.bool b) rfl hE (.tmp rfl .nil) ?_
  exact ⟨rfl, K_0⟩
theorem R15_0_l : List.range (regOf Try.f15 0).size = [0] := by kernel_rfl
theorem R15_1_l : List.range (regOf Try.f15 1).size = [0, 1] := by kernel_rfl
theorem R15_2_l : List.range (regOf Try.f15 2).size = [0] := by kernel_rfl
theorem R15_3_l : List.range (regOf Try.f15 3).size = [0] := by kernel_rfl
theorem R15_4_l : List.range (regOf Try.f15 4).size = [0] := by kernel_rfl
theorem R15_5_l : List.range (regOf Try.f15 5).size = [0, 1] := by kernel_rfl
theorem R15_7_l : List.range (regOf Try.f15 7).size = [0, 1, 2, 3, 4, 5, 6] := by kernel_rfl
theorem R15_8_l : List.range (regOf Try.f15 8).size = [0, 1, 2, 3] := by kernel_rfl
theorem R15_6_l : List.range (regOf Try.f15 6).size = [0, 1, 2] := by kernel_rfl
theorem R15_9_l : List.range (regOf Try.f15 9).size = [0, 1, 2, 3, 4, 5] := by kernel_rfl
theorem R15_10_l : List.range (regOf Try.f15 10).size = [0, 1, 2, 3, 4, 5, 6, 7, 8, 9, 10] := by kernel_rfl
theorem R15_11_l : List.range (regOf Try.f15 11).size = [0, 1, 2] := by kernel_rfl
theorem R15_12_l : List.range (regOf Try.f15 12).size = [0, 1] := by kernel_rfl
theorem R15_13_l : List.range (regOf Try.f15 13).size = [0] := by kernel_rfl
theorem R15_14_l : List.range (regOf Try.f15 14).size = [0, 1] := by kernel_rfl
theorem body15 : Try.f15.body = some (.seq (.region 0 (regOf Try.f15 0) false) (.seq (.seq (.region 1 (regOf Try.f15 1) false) (.cond (Operand.tmp 7) (.seq (.region 2 (regOf Try.f15 2) false) (.ret)) (.skip))) (.seq (.region 3 (regOf Try.f15 3) false) (.seq (.seq (.region 4 (regOf Try.f15 4) false) (.block 0 (.loop (.seq (.seq (.region 5 (regOf Try.f15 5) false) (.cond (Operand.tmp 9) (.skip) (.exit 0))) (.seq (.block 1 (.seq (.region 7 (regOf Try.f15 7) false) (.cond (Operand.tmp 18) (.region 8 (regOf Try.f15 8) false) (.skip)))) (.region 6 (regOf Try.f15 6) false)))))) (.seq (.region 9 (regOf Try.f15 9) false) (.seq (.seq (.region 10 (regOf Try.f15 10) false) (.cond (Operand.tmp 37) (.region 11 (regOf Try.f15 11) false) (.skip))) (.seq (.seq (.region 12 (regOf Try.f15 12) false) (.cond (Operand.tmp 41) (.seq (.region 13 (regOf Try.f15 13) false) (.ret)) (.skip))) (.seq (.region 14 (regOf Try.f15 14) false) (.ret))))))))) := by kernel_rfl
theorem p15_0_0 : pj (regOf Try.f15 0) 0 = some (some 2, Op.assign (Operand.const (Value.int IntKind.i64 0)), 3, none) := by kernel_rfl
theorem p15_1_0 : pj (regOf Try.f15 1) 0 = some (some 6, Op.move (Operand.tmp 0), 22, none) := by kernel_rfl
theorem p15_1_1 : pj (regOf Try.f15 1) 1 = some (some 7, Op.binOp BinOp.geq 22 (Operand.tmp 6) (Operand.const (Value.float FloatKind.f64 4647714815446351872)) 22, 4, none) := by kernel_rfl
theorem p15_2_0 : pj (regOf Try.f15 2) 0 = some (some 2, Op.assign (Operand.const (Value.int IntKind.i64 65535)), 3, none) := by kernel_rfl
theorem p15_3_0 : pj (regOf Try.f15 3) 0 = some (some 3, Op.assign (Operand.const (Value.int IntKind.i64 0)), 3, none) := by kernel_rfl
theorem p15_4_0 : pj (regOf Try.f15 4) 0 = some (some 4, Op.assign (Operand.const (Value.int IntKind.i64 65536)), 3, none) := by kernel_rfl
theorem p15_5_0 : pj (regOf Try.f15 5) 0 = some (some 8, Op.move (Operand.tmp 4), 3, none) := by kernel_rfl
theorem p15_5_1 : pj (regOf Try.f15 5) 1 = some (some 9, Op.binOp BinOp.gtr 3 (Operand.tmp 8) (Operand.const (Value.int IntKind.i64 0)) 3, 4, none) := by kernel_rfl
theorem p15_7_0 : pj (regOf Try.f15 7) 0 = some (some 12, Op.move (Operand.tmp 3), 3, none) := by kernel_rfl
theorem p15_7_1 : pj (regOf Try.f15 7) 1 = some (some 13, Op.move (Operand.tmp 4), 3, none) := by kernel_rfl
theorem p15_7_2 : pj (regOf Try.f15 7) 2 = some (some 14, Op.binOp BinOp.add 3 (Operand.tmp 12) (Operand.tmp 13) 3, 3, none) := by kernel_rfl
theorem p15_7_3 : pj (regOf Try.f15 7) 3 = some (some 15, Op.convert 3 22 (Operand.tmp 14), 22, none) := by kernel_rfl
theorem p15_7_4 : pj (regOf Try.f15 7) 4 = some (some 16, Op.move (Operand.tmp 0), 22, none) := by kernel_rfl
theorem p15_7_5 : pj (regOf Try.f15 7) 5 = some (some 17, Op.binOp BinOp.mul 22 (Operand.tmp 16) (Operand.const (Value.float FloatKind.f64 4638707616191610880)) 22, 22, none) := by kernel_rfl
theorem p15_7_6 : pj (regOf Try.f15 7) 6 = some (some 18, Op.binOp BinOp.leq 22 (Operand.tmp 15) (Operand.tmp 17) 22, 4, none) := by kernel_rfl
theorem p15_8_0 : pj (regOf Try.f15 8) 0 = some (some 19, Op.move (Operand.tmp 3), 3, none) := by kernel_rfl
theorem p15_8_1 : pj (regOf Try.f15 8) 1 = some (some 20, Op.move (Operand.tmp 4), 3, none) := by kernel_rfl
theorem p15_8_2 : pj (regOf Try.f15 8) 2 = some (some 21, Op.binOp BinOp.add 3 (Operand.tmp 19) (Operand.tmp 20) 3, 3, none) := by kernel_rfl
theorem p15_8_3 : pj (regOf Try.f15 8) 3 = some (some 3, Op.assign (Operand.tmp 21), 3, none) := by kernel_rfl
theorem p15_6_0 : pj (regOf Try.f15 6) 0 = some (some 10, Op.move (Operand.tmp 4), 3, none) := by kernel_rfl
theorem p15_6_1 : pj (regOf Try.f15 6) 1 = some (some 11, Op.binOp BinOp.quo 3 (Operand.tmp 10) (Operand.const (Value.int IntKind.i64 2)) 3, 3, none) := by kernel_rfl
theorem p15_6_2 : pj (regOf Try.f15 6) 2 = some (some 4, Op.assign (Operand.tmp 11), 3, none) := by kernel_rfl
theorem p15_9_0 : pj (regOf Try.f15 9) 0 = some (some 22, Op.move (Operand.tmp 0), 22, none) := by kernel_rfl
theorem p15_9_1 : pj (regOf Try.f15 9) 1 = some (some 23, Op.binOp BinOp.mul 22 (Operand.tmp 22) (Operand.const (Value.float FloatKind.f64 4638707616191610880)) 22, 22, none) := by kernel_rfl
theorem p15_9_2 : pj (regOf Try.f15 9) 2 = some (some 24, Op.move (Operand.tmp 3), 3, none) := by kernel_rfl
theorem p15_9_3 : pj (regOf Try.f15 9) 3 = some (some 25, Op.convert 3 22 (Operand.tmp 24), 22, none) := by kernel_rfl
theorem p15_9_4 : pj (regOf Try.f15 9) 4 = some (some 26, Op.binOp BinOp.sub 22 (Operand.tmp 23) (Operand.tmp 25) 22, 22, none) := by kernel_rfl
theorem p15_9_5 : pj (regOf Try.f15 9) 5 = some (some 5, Op.assign (Operand.tmp 26), 22, none) := by kernel_rfl
theorem p15_10_0 : pj (regOf Try.f15 10) 0 = some (some 27, Op.move (Operand.tmp 5), 22, none) := by kernel_rfl
theorem p15_10_1 : pj (regOf Try.f15 10) 1 = some (some 28, Op.binOp BinOp.gtr 22 (Operand.tmp 27) (Operand.const (Value.float FloatKind.f64 4602678819172646912)) 22, 4, none) := by kernel_rfl
theorem p15_10_2 : pj (regOf Try.f15 10) 2 = some (some 29, Op.move (Operand.tmp 28), 4, none) := by kernel_rfl
theorem p15_10_3 : pj (regOf Try.f15 10) 3 = some (some 30, Op.move (Operand.tmp 5), 22, some (2, false)) := by kernel_rfl
theorem g15_10_2 : dstOf (regOf Try.f15 10) 2 = some 29 := by kernel_rfl
theorem p15_10_4 : pj (regOf Try.f15 10) 4 = some (some 31, Op.binOp BinOp.eql 22 (Operand.tmp 30) (Operand.const (Value.float FloatKind.f64 4602678819172646912)) 22, 4, some (2, false)) := by kernel_rfl
theorem p15_10_5 : pj (regOf Try.f15 10) 5 = some (some 32, Op.move (Operand.tmp 31), 4, some (2, false)) := by kernel_rfl
theorem p15_10_6 : pj (regOf Try.f15 10) 6 = some (some 33, Op.move (Operand.tmp 3), 3, some (5, true)) := by kernel_rfl
theorem g15_10_5 : dstOf (regOf Try.f15 10) 5 = some 32 := by kernel_rfl
theorem p15_10_7 : pj (regOf Try.f15 10) 7 = some (some 34, Op.binOp BinOp.rem 3 (Operand.tmp 33) (Operand.const (Value.int IntKind.i64 2)) 3, 3, some (5, true)) := by kernel_rfl
theorem p15_10_8 : pj (regOf Try.f15 10) 8 = some (some 35, Op.binOp BinOp.eql 3 (Operand.tmp 34) (Operand.const (Value.int IntKind.i64 1)) 3, 4, some (5, true)) := by kernel_rfl
theorem p15_10_9 : pj (regOf Try.f15 10) 9 = some (some 36, Op.pick (Operand.tmp 32) (Operand.tmp 35) (Operand.const (Value.bool false)), 4, some (2, false)) := by kernel_rfl
theorem p15_10_10 : pj (regOf Try.f15 10) 10 = some (some 37, Op.pick (Operand.tmp 29) (Operand.const (Value.bool true)) (Operand.tmp 36), 4, none) := by kernel_rfl
theorem p15_11_0 : pj (regOf Try.f15 11) 0 = some (some 38, Op.move (Operand.tmp 3), 3, none) := by kernel_rfl
theorem p15_11_1 : pj (regOf Try.f15 11) 1 = some (some 39, Op.binOp BinOp.add 3 (Operand.tmp 38) (Operand.const (Value.int IntKind.i64 1)) 3, 3, none) := by kernel_rfl
theorem p15_11_2 : pj (regOf Try.f15 11) 2 = some (some 3, Op.assign (Operand.tmp 39), 3, none) := by kernel_rfl
theorem p15_12_0 : pj (regOf Try.f15 12) 0 = some (some 40, Op.move (Operand.tmp 3), 3, none) := by kernel_rfl
theorem p15_12_1 : pj (regOf Try.f15 12) 1 = some (some 41, Op.binOp BinOp.gtr 3 (Operand.tmp 40) (Operand.const (Value.int IntKind.i64 65535)) 3, 4, none) := by kernel_rfl
theorem p15_13_0 : pj (regOf Try.f15 13) 0 = some (some 2, Op.assign (Operand.const (Value.int IntKind.i64 65535)), 3, none) := by kernel_rfl
theorem p15_14_0 : pj (regOf Try.f15 14) 0 = some (some 42, Op.move (Operand.tmp 3), 3, none) := by kernel_rfl
theorem p15_14_1 : pj (regOf Try.f15 14) 1 = some (some 2, Op.assign (Operand.tmp 42), 3, none) := by kernel_rfl
set_option maxHeartbeats 4000000 in
theorem rcost_any (x : Nat) (hR_x : right x) (v : Int) (hv : costV x = v) (w : World) : Calls Try.prog 15 #[.float .f64 x] w fun e w' => e = .returned (.int .i64 v) ∧ Kp w w' (fun _ => False) := by
  have K_0 := Kp.refl w (fun _ => False)
  refine enter (args := [Value.float .f64 x]) (n := 43) Try.func15 body15 rfl rfl rfl ?_
  intro a hE
  rcases Decidable.em (4647714815446351872 ≤ x) with hG | hG
  ·
    refine c_reg R15_0_l ?_
    refine p_cons (s_still p15_0_0 hE wn_none rfl (st_assign rfl) ?_)
    clear hE a; intro a hE
    refine p_nil ?_
    refine x_norm ?_
    refine wp_seq ?_
    refine c_reg R15_1_l ?_
    refine p_cons (s_still p15_1_0 hE wn_none rfl (st_move rfl) ?_)
    clear hE a; intro a hE
    refine p_cons (s_still p15_1_1 hE wn_none rfl (st_fgeq (b := true) rfl rfl (by rw [ge_right (by have := hR_x.2; omega) (by decide) (by decide)]; exact decide_eq_true ⟨hR_x, hG⟩)) ?_)
    clear hE a; intro a hE
    refine p_nil ?_
    refine x_norm ?_
    refine c_cond (t := true) hE rfl ?_
    refine c_reg R15_2_l ?_
    refine p_cons (s_still p15_2_0 hE wn_none rfl (st_assign rfl) ?_)
    clear hE a; intro a hE
    refine p_nil ?_
    refine x_norm ?_
    refine wp_ret ?_
    refine x_ret ?_
    refine ret_one (v := Value.int .i64 65535) rfl hE (.tmp rfl .nil) ?_
    exact ⟨by rw [← hv]; unfold costV; rw [if_pos hR_x, if_pos hG], K_0⟩
  ·
    refine c_reg R15_0_l ?_
    refine p_cons (s_still p15_0_0 hE wn_none rfl (st_assign rfl) ?_)
    clear hE a; intro a hE
    refine p_nil ?_
    refine x_norm ?_
    refine wp_seq ?_
    refine c_reg R15_1_l ?_
    refine p_cons (s_still p15_1_0 hE wn_none rfl (st_move rfl) ?_)
    clear hE a; intro a hE
    refine p_cons (s_still p15_1_1 hE wn_none rfl (st_fgeq (b := false) rfl rfl (by rw [ge_right (by have := hR_x.2; omega) (by decide) (by decide)]; exact decide_eq_false (fun h => hG h.2))) ?_)
    clear hE a; intro a hE
    refine p_nil ?_
    refine x_norm ?_
    refine c_cond (t := false) hE rfl ?_
    refine wp_skip ?_
    refine x_norm ?_
    refine c_reg R15_3_l ?_
    refine p_cons (s_still p15_3_0 hE wn_none rfl (st_assign rfl) ?_)
    clear hE a; intro a hE
    refine p_nil ?_
    refine x_norm ?_
    refine wp_seq ?_
    refine c_reg R15_4_l ?_
    refine p_cons (s_still p15_4_0 hE wn_none rfl (st_assign rfl) ?_)
    clear hE a; intro a hE
    refine p_nil ?_
    refine x_norm ?_
    refine wp_block ?_
    have hNb := NF_bounds hR_x.1 (show x < 4647714815446351872 by omega)
    have hst := num_start hNb.2
    refine c_loop (α := Nat) (fun k a W => En 43 a [(0, Value.float .f64 x), (2, Value.int .i64 0), (7, Value.bool false), (3, Value.int .i64 (numF (NF x) k : Int)), (4, Value.int .i64 (bitF k : Int))] ∧ k ≤ 17 ∧ Kp w W (fun _ => False)) (fun k => 17 - k) (0) ?_ ?_
    ·
      exact ⟨En.sub hE ⟨rfl, rfl, rfl, (by rw [hst]; rfl), rfl, trivial⟩, Nat.zero_le _, K_0⟩
    ·
      clear hE a
      rintro k a w1 ⟨hE, hk9, K_0⟩
      have hbf := bit_facts k hk9
      have hnl := num_le (NF x) k
      have hbf1 := hbf.1
      have hbf2 := hbf.2.1
      refine wp_seq ?_
      refine c_reg R15_5_l ?_
      refine p_cons (s_still p15_5_0 hE wn_none rfl (st_move rfl) ?_)
      clear hE a; intro a hE
      rcases Decidable.em (0 < (bitF k : Int)) with hc2 | hc2
      ·
        refine p_cons (s_still (v := Value.bool true) p15_5_1 hE wn_none rfl (st_gtr rfl rfl (decide_eq_true hc2)) ?_)
        clear hE a; intro a hE
        refine p_nil ?_
        refine x_norm ?_
        refine c_cond (t := true) hE rfl ?_
        refine wp_skip ?_
        refine x_norm ?_
        refine wp_seq ?_
        refine wp_block ?_
        rcases Decidable.em (numF (NF x) k + bitF k ≤ NF x) with hLE | hLE
        ·
          refine c_reg R15_7_l ?_
          refine p_cons (s_still p15_7_0 hE wn_none rfl (st_move rfl) ?_)
          clear hE a; intro a hE
          refine p_cons (s_still p15_7_1 hE wn_none rfl (st_move rfl) ?_)
          clear hE a; intro a hE
          refine p_cons (s_still p15_7_2 hE wn_none rfl (st_add (z := ((numF (NF x) k + bitF k : Nat) : Int)) rfl rfl (by rw [← Int.natCast_add]; exact wr_i64 _ (by omega) (by omega))) ?_)
          clear hE a; intro a hE
          refine p_cons (s_still p15_7_3 hE wn_none rfl (st_i2f (z := (fl (numF (NF x) k + bitF k : Nat))) (by kernel_rfl) Try.underlying22 rfl (i2f_nat _)) ?_)
          clear hE a; intro a hE
          refine p_cons (s_still p15_7_4 hE wn_none rfl (st_move rfl) ?_)
          clear hE a; intro a hE
          refine p_cons (s_still p15_7_5 hE wn_none rfl (st_farith (z := (x + 31525197391593472)) rfl rfl rfl (mul_128 hR_x.1 ⟨by omega, by omega⟩)) ?_)
          clear hE a; intro a hE
          refine p_cons (s_still p15_7_6 hE wn_none rfl (st_fleq (b := true) rfl rfl (by rw [leq_fl hR_x.1 (by omega) (by omega) (by omega)]; exact decide_eq_true hLE)) ?_)
          clear hE a; intro a hE
          refine p_nil ?_
          refine x_norm ?_
          refine c_cond (t := true) hE rfl ?_
          refine c_regL R15_8_l ?_
          refine p_cons (s_still p15_8_0 hE wn_none rfl (st_move rfl) ?_)
          clear hE a; intro a hE
          refine p_cons (s_still p15_8_1 hE wn_none rfl (st_move rfl) ?_)
          clear hE a; intro a hE
          refine p_cons (s_still p15_8_2 hE wn_none rfl (st_add (z := ((numF (NF x) k + bitF k : Nat) : Int)) rfl rfl (by rw [← Int.natCast_add]; exact wr_i64 _ (by omega) (by omega))) ?_)
          clear hE a; intro a hE
          refine p_cons (s_still p15_8_3 hE wn_none rfl (st_assign rfl) ?_)
          clear hE a; intro a hE
          refine p_nil ?_
          refine x_normB ?_
          refine x_norm ?_
          refine c_regL R15_6_l ?_
          refine p_cons (s_still p15_6_0 hE wn_none rfl (st_move rfl) ?_)
          clear hE a; intro a hE
          refine p_cons (s_still p15_6_1 hE wn_none rfl (st_quo (z := (bitF (k + 1) : Int)) rfl rfl (by decide) (by rw [Int.tdiv_eq_ediv_of_nonneg (by omega)]; exact (wr_i64 _ (by omega) (by omega)).trans (by have := hbf.2.2; omega))) ?_)
          clear hE a; intro a hE
          refine p_cons (s_still p15_6_2 hE wn_none rfl (st_assign rfl) ?_)
          clear hE a; intro a hE
          refine p_nil ?_
          refine x_norm ?_
          have e3 : numF (NF x) (k + 1) = numF (NF x) k + bitF k := by rw [num_step (by omega), if_pos hLE]
          exact ⟨k + 1, by omega, En.sub hE ⟨rfl, rfl, rfl, (by rw [e3]; rfl), rfl, trivial⟩, by omega, K_0⟩
        ·
          refine c_reg R15_7_l ?_
          refine p_cons (s_still p15_7_0 hE wn_none rfl (st_move rfl) ?_)
          clear hE a; intro a hE
          refine p_cons (s_still p15_7_1 hE wn_none rfl (st_move rfl) ?_)
          clear hE a; intro a hE
          refine p_cons (s_still p15_7_2 hE wn_none rfl (st_add (z := ((numF (NF x) k + bitF k : Nat) : Int)) rfl rfl (by rw [← Int.natCast_add]; exact wr_i64 _ (by omega) (by omega))) ?_)
          clear hE a; intro a hE
          refine p_cons (s_still p15_7_3 hE wn_none rfl (st_i2f (z := (fl (numF (NF x) k + bitF k : Nat))) (by kernel_rfl) Try.underlying22 rfl (i2f_nat _)) ?_)
          clear hE a; intro a hE
          refine p_cons (s_still p15_7_4 hE wn_none rfl (st_move rfl) ?_)
          clear hE a; intro a hE
          refine p_cons (s_still p15_7_5 hE wn_none rfl (st_farith (z := (x + 31525197391593472)) rfl rfl rfl (mul_128 hR_x.1 ⟨by omega, by omega⟩)) ?_)
          clear hE a; intro a hE
          refine p_cons (s_still p15_7_6 hE wn_none rfl (st_fleq (b := false) rfl rfl (by rw [leq_fl hR_x.1 (by omega) (by omega) (by omega)]; exact decide_eq_false hLE)) ?_)
          clear hE a; intro a hE
          refine p_nil ?_
          refine x_norm ?_
          refine c_cond (t := false) hE rfl ?_
          refine wp_skip ?_
          refine x_normB ?_
          refine x_norm ?_
          refine c_regL R15_6_l ?_
          refine p_cons (s_still p15_6_0 hE wn_none rfl (st_move rfl) ?_)
          clear hE a; intro a hE
          refine p_cons (s_still p15_6_1 hE wn_none rfl (st_quo (z := (bitF (k + 1) : Int)) rfl rfl (by decide) (by rw [Int.tdiv_eq_ediv_of_nonneg (by omega)]; exact (wr_i64 _ (by omega) (by omega)).trans (by have := hbf.2.2; omega))) ?_)
          clear hE a; intro a hE
          refine p_cons (s_still p15_6_2 hE wn_none rfl (st_assign rfl) ?_)
          clear hE a; intro a hE
          refine p_nil ?_
          refine x_norm ?_
          have e3 : numF (NF x) (k + 1) = numF (NF x) k := by rw [num_step (by omega), if_neg hLE]
          exact ⟨k + 1, by omega, En.sub hE ⟨rfl, rfl, rfl, (by rw [e3]; rfl), rfl, trivial⟩, by omega, K_0⟩
      ·
        refine p_cons (s_still (v := Value.bool false) p15_5_1 hE wn_none rfl (st_gtr rfl rfl (decide_eq_false hc2)) ?_)
        clear hE a; intro a hE
        refine p_nil ?_
        refine x_norm ?_
        refine c_cond (t := false) hE rfl ?_
        refine wp_exit ?_
        refine x_exit ?_
        refine x_exit ?_
        obtain rfl : k = 17 := by omega
        rw [num_end] at hE
        obtain ⟨r9, hs1, hs2, hs3⟩ := sub_fl hR_x.1 (show x < 4647714815446351872 by omega)
        refine x_in ?_
        refine x_norm ?_
        refine c_reg R15_9_l ?_
        refine p_cons (s_still p15_9_0 hE wn_none rfl (st_move rfl) ?_)
        clear hE a; intro a hE
        refine p_cons (s_still p15_9_1 hE wn_none rfl (st_farith (z := (x + 31525197391593472)) rfl rfl rfl (mul_128 hR_x.1 ⟨by omega, by omega⟩)) ?_)
        clear hE a; intro a hE
        refine p_cons (s_still p15_9_2 hE wn_none rfl (st_move rfl) ?_)
        clear hE a; intro a hE
        refine p_cons (s_still p15_9_3 hE wn_none rfl (st_i2f (z := (fl (NF x))) (by kernel_rfl) Try.underlying22 rfl (i2f_nat _)) ?_)
        clear hE a; intro a hE
        refine p_cons (s_still p15_9_4 hE wn_none rfl (st_farith (z := r9) rfl rfl rfl hs1) ?_)
        clear hE a; intro a hE
        refine p_cons (s_still p15_9_5 hE wn_none rfl (st_assign rfl) ?_)
        clear hE a; intro a hE
        refine p_nil ?_
        refine x_norm ?_
        refine wp_seq ?_
        rcases Decidable.em (2 ^ (1068 - x / 4503599627370496) < 2 * RF x) with hGT | hGT
        ·
          refine c_reg R15_10_l ?_
          refine p_cons (s_still p15_10_0 hE wn_none rfl (st_move rfl) ?_)
          clear hE a; intro a hE
          refine p_cons (s_still p15_10_1 hE wn_none rfl (st_fgtr (b := true) rfl rfl (hs2.trans (decide_eq_true hGT))) ?_)
          clear hE a; intro a hE
          refine p_cons (s_still p15_10_2 hE wn_none rfl (st_move rfl) ?_)
          clear hE a; intro a hE
          refine p_cons (s_skip p15_10_3 hE (wn_some g15_10_2 rfl rfl) rfl ?_)
          clear hE a; intro a hE
          refine p_cons (s_skip p15_10_4 hE (wn_some g15_10_2 rfl rfl) rfl ?_)
          clear hE a; intro a hE
          refine p_cons (s_skip p15_10_5 hE (wn_some g15_10_2 rfl rfl) rfl ?_)
          clear hE a; intro a hE
          refine p_cons (s_skip p15_10_6 hE (wn_undef g15_10_5 rfl) rfl ?_)
          clear hE a; intro a hE
          refine p_cons (s_skip p15_10_7 hE (wn_undef g15_10_5 rfl) rfl ?_)
          clear hE a; intro a hE
          refine p_cons (s_skip p15_10_8 hE (wn_undef g15_10_5 rfl) rfl ?_)
          clear hE a; intro a hE
          refine p_cons (s_skip p15_10_9 hE (wn_some g15_10_2 rfl rfl) rfl ?_)
          clear hE a; intro a hE
          refine p_cons (s_still p15_10_10 hE wn_none rfl (st_pick rfl rfl) ?_)
          clear hE a; intro a hE
          refine p_nil ?_
          refine x_norm ?_
          refine c_cond (t := true) hE rfl ?_
          refine c_regL R15_11_l ?_
          refine p_cons (s_still p15_11_0 hE wn_none rfl (st_move rfl) ?_)
          clear hE a; intro a hE
          refine p_cons (s_still p15_11_1 hE wn_none rfl (st_add (z := (NF x : Int) + 1) rfl rfl (wr_i64 _ (by omega) (by omega))) ?_)
          clear hE a; intro a hE
          refine p_cons (s_still p15_11_2 hE wn_none rfl (st_assign rfl) ?_)
          clear hE a; intro a hE
          refine p_nil ?_
          refine x_norm ?_
          refine wp_seq ?_
          refine c_reg R15_12_l ?_
          refine p_cons (s_still p15_12_0 hE wn_none rfl (st_move rfl) ?_)
          clear hE a; intro a hE
          rcases Decidable.em (65535 < (NF x : Int) + 1) with hc3 | hc3
          ·
            refine p_cons (s_still (v := Value.bool true) p15_12_1 hE wn_none rfl (st_gtr rfl rfl (decide_eq_true hc3)) ?_)
            clear hE a; intro a hE
            refine p_nil ?_
            refine x_norm ?_
            refine c_cond (t := true) hE rfl ?_
            refine c_reg R15_13_l ?_
            refine p_cons (s_still p15_13_0 hE wn_none rfl (st_assign rfl) ?_)
            clear hE a; intro a hE
            refine p_nil ?_
            refine x_norm ?_
            refine wp_ret ?_
            refine x_ret ?_
            refine ret_one (v := Value.int .i64 65535) rfl hE (.tmp rfl .nil) ?_
            have hr := rnd_NF hR_x.1 (show x < 4647714815446351872 by omega)
            rw [if_pos (.inl hGT)] at hr
            have e9 : costV x = 65535 := by
              unfold costV
              rw [if_pos hR_x, if_neg hG]
              split <;> omega
            exact ⟨by rw [← hv, e9], K_0⟩
          ·
            refine p_cons (s_still (v := Value.bool false) p15_12_1 hE wn_none rfl (st_gtr rfl rfl (decide_eq_false hc3)) ?_)
            clear hE a; intro a hE
            refine p_nil ?_
            refine x_norm ?_
            refine c_cond (t := false) hE rfl ?_
            refine wp_skip ?_
            refine x_norm ?_
            refine c_reg R15_14_l ?_
            refine p_cons (s_still p15_14_0 hE wn_none rfl (st_move rfl) ?_)
            clear hE a; intro a hE
            refine p_cons (s_still p15_14_1 hE wn_none rfl (st_assign rfl) ?_)
            clear hE a; intro a hE
            refine p_nil ?_
            refine x_norm ?_
            refine wp_ret ?_
            refine ret_one (v := Value.int .i64 ((NF x : Int) + 1)) rfl hE (.tmp rfl .nil) ?_
            have hr := rnd_NF hR_x.1 (show x < 4647714815446351872 by omega)
            rw [if_pos (.inl hGT)] at hr
            have e9 : costV x = (NF x : Int) + 1 := by
              unfold costV
              rw [if_pos hR_x, if_neg hG]
              split <;> omega
            exact ⟨by rw [← hv, e9], K_0⟩
        ·
          rcases Decidable.em (2 ^ (1068 - x / 4503599627370496) = 2 * RF x) with hEQ | hEQ
          ·
            rcases Decidable.em (NF x % 2 = 1) with hOD | hOD
            ·
              refine c_reg R15_10_l ?_
              refine p_cons (s_still p15_10_0 hE wn_none rfl (st_move rfl) ?_)
              clear hE a; intro a hE
              refine p_cons (s_still p15_10_1 hE wn_none rfl (st_fgtr (b := false) rfl rfl (hs2.trans (decide_eq_false hGT))) ?_)
              clear hE a; intro a hE
              refine p_cons (s_still p15_10_2 hE wn_none rfl (st_move rfl) ?_)
              clear hE a; intro a hE
              refine p_cons (s_still p15_10_3 hE (wn_some g15_10_2 rfl rfl) rfl (st_move rfl) ?_)
              clear hE a; intro a hE
              refine p_cons (s_still p15_10_4 hE (wn_some g15_10_2 rfl rfl) rfl (st_feql (b := true) rfl rfl (hs3.trans (decide_eq_true hEQ))) ?_)
              clear hE a; intro a hE
              refine p_cons (s_still p15_10_5 hE (wn_some g15_10_2 rfl rfl) rfl (st_move rfl) ?_)
              clear hE a; intro a hE
              refine p_cons (s_still p15_10_6 hE (wn_some g15_10_5 rfl rfl) rfl (st_move rfl) ?_)
              clear hE a; intro a hE
              refine p_cons (s_still p15_10_7 hE (wn_some g15_10_5 rfl rfl) rfl (st_rem (z := (NF x : Int) % 2) rfl rfl (by decide) (Int.tmod_eq_emod_of_nonneg (by omega))) ?_)
              clear hE a; intro a hE
              refine p_cons (s_still p15_10_8 hE (wn_some g15_10_5 rfl rfl) rfl (st_eql (b := true) rfl rfl (decide_eq_true (by omega))) ?_)
              clear hE a; intro a hE
              refine p_cons (s_still p15_10_9 hE (wn_some g15_10_2 rfl rfl) rfl (st_pick rfl rfl) ?_)
              clear hE a; intro a hE
              refine p_cons (s_still p15_10_10 hE wn_none rfl (st_pick rfl rfl) ?_)
              clear hE a; intro a hE
              refine p_nil ?_
              refine x_norm ?_
              refine c_cond (t := true) hE rfl ?_
              refine c_regL R15_11_l ?_
              refine p_cons (s_still p15_11_0 hE wn_none rfl (st_move rfl) ?_)
              clear hE a; intro a hE
              refine p_cons (s_still p15_11_1 hE wn_none rfl (st_add (z := (NF x : Int) + 1) rfl rfl (wr_i64 _ (by omega) (by omega))) ?_)
              clear hE a; intro a hE
              refine p_cons (s_still p15_11_2 hE wn_none rfl (st_assign rfl) ?_)
              clear hE a; intro a hE
              refine p_nil ?_
              refine x_norm ?_
              refine wp_seq ?_
              refine c_reg R15_12_l ?_
              refine p_cons (s_still p15_12_0 hE wn_none rfl (st_move rfl) ?_)
              clear hE a; intro a hE
              rcases Decidable.em (65535 < (NF x : Int) + 1) with hc4 | hc4
              ·
                refine p_cons (s_still (v := Value.bool true) p15_12_1 hE wn_none rfl (st_gtr rfl rfl (decide_eq_true hc4)) ?_)
                clear hE a; intro a hE
                refine p_nil ?_
                refine x_norm ?_
                refine c_cond (t := true) hE rfl ?_
                refine c_reg R15_13_l ?_
                refine p_cons (s_still p15_13_0 hE wn_none rfl (st_assign rfl) ?_)
                clear hE a; intro a hE
                refine p_nil ?_
                refine x_norm ?_
                refine wp_ret ?_
                refine x_ret ?_
                refine ret_one (v := Value.int .i64 65535) rfl hE (.tmp rfl .nil) ?_
                have hr := rnd_NF hR_x.1 (show x < 4647714815446351872 by omega)
                rw [if_pos (.inr ⟨hEQ, hOD⟩)] at hr
                have e9 : costV x = 65535 := by
                  unfold costV
                  rw [if_pos hR_x, if_neg hG]
                  split <;> omega
                exact ⟨by rw [← hv, e9], K_0⟩
              ·
                refine p_cons (s_still (v := Value.bool false) p15_12_1 hE wn_none rfl (st_gtr rfl rfl (decide_eq_false hc4)) ?_)
                clear hE a; intro a hE
                refine p_nil ?_
                refine x_norm ?_
                refine c_cond (t := false) hE rfl ?_
                refine wp_skip ?_
                refine x_norm ?_
                refine c_reg R15_14_l ?_
                refine p_cons (s_still p15_14_0 hE wn_none rfl (st_move rfl) ?_)
                clear hE a; intro a hE
                refine p_cons (s_still p15_14_1 hE wn_none rfl (st_assign rfl) ?_)
                clear hE a; intro a hE
                refine p_nil ?_
                refine x_norm ?_
                refine wp_ret ?_
                refine ret_one (v := Value.int .i64 ((NF x : Int) + 1)) rfl hE (.tmp rfl .nil) ?_
                have hr := rnd_NF hR_x.1 (show x < 4647714815446351872 by omega)
                rw [if_pos (.inr ⟨hEQ, hOD⟩)] at hr
                have e9 : costV x = (NF x : Int) + 1 := by
                  unfold costV
                  rw [if_pos hR_x, if_neg hG]
                  split <;> omega
                exact ⟨by rw [← hv, e9], K_0⟩
            ·
              refine c_reg R15_10_l ?_
              refine p_cons (s_still p15_10_0 hE wn_none rfl (st_move rfl) ?_)
              clear hE a; intro a hE
              refine p_cons (s_still p15_10_1 hE wn_none rfl (st_fgtr (b := false) rfl rfl (hs2.trans (decide_eq_false hGT))) ?_)
              clear hE a; intro a hE
              refine p_cons (s_still p15_10_2 hE wn_none rfl (st_move rfl) ?_)
              clear hE a; intro a hE
              refine p_cons (s_still p15_10_3 hE (wn_some g15_10_2 rfl rfl) rfl (st_move rfl) ?_)
              clear hE a; intro a hE
              refine p_cons (s_still p15_10_4 hE (wn_some g15_10_2 rfl rfl) rfl (st_feql (b := true) rfl rfl (hs3.trans (decide_eq_true hEQ))) ?_)
              clear hE a; intro a hE
              refine p_cons (s_still p15_10_5 hE (wn_some g15_10_2 rfl rfl) rfl (st_move rfl) ?_)
              clear hE a; intro a hE
              refine p_cons (s_still p15_10_6 hE (wn_some g15_10_5 rfl rfl) rfl (st_move rfl) ?_)
              clear hE a; intro a hE
              refine p_cons (s_still p15_10_7 hE (wn_some g15_10_5 rfl rfl) rfl (st_rem (z := (NF x : Int) % 2) rfl rfl (by decide) (Int.tmod_eq_emod_of_nonneg (by omega))) ?_)
              clear hE a; intro a hE
              refine p_cons (s_still p15_10_8 hE (wn_some g15_10_5 rfl rfl) rfl (st_eql (b := false) rfl rfl (decide_eq_false (by omega))) ?_)
              clear hE a; intro a hE
              refine p_cons (s_still p15_10_9 hE (wn_some g15_10_2 rfl rfl) rfl (st_pick rfl rfl) ?_)
              clear hE a; intro a hE
              refine p_cons (s_still p15_10_10 hE wn_none rfl (st_pick rfl rfl) ?_)
              clear hE a; intro a hE
              refine p_nil ?_
              refine x_norm ?_
              refine c_cond (t := false) hE rfl ?_
              refine wp_skip ?_
              refine x_norm ?_
              refine wp_seq ?_
              refine c_reg R15_12_l ?_
              refine p_cons (s_still p15_12_0 hE wn_none rfl (st_move rfl) ?_)
              clear hE a; intro a hE
              rcases Decidable.em (65535 < (NF x : Int)) with hc5 | hc5
              ·
                refine p_cons (s_still (v := Value.bool true) p15_12_1 hE wn_none rfl (st_gtr rfl rfl (decide_eq_true hc5)) ?_)
                clear hE a; intro a hE
                refine p_nil ?_
                refine x_norm ?_
                refine c_cond (t := true) hE rfl ?_
                refine c_reg R15_13_l ?_
                refine p_cons (s_still p15_13_0 hE wn_none rfl (st_assign rfl) ?_)
                clear hE a; intro a hE
                refine p_nil ?_
                refine x_norm ?_
                refine wp_ret ?_
                refine x_ret ?_
                refine ret_one (v := Value.int .i64 65535) rfl hE (.tmp rfl .nil) ?_
                have hr := rnd_NF hR_x.1 (show x < 4647714815446351872 by omega)
                rw [if_neg (fun h => h.elim hGT (fun h2 => hOD h2.2))] at hr
                have e9 : costV x = 65535 := by
                  unfold costV
                  rw [if_pos hR_x, if_neg hG]
                  split <;> omega
                exact ⟨by rw [← hv, e9], K_0⟩
              ·
                refine p_cons (s_still (v := Value.bool false) p15_12_1 hE wn_none rfl (st_gtr rfl rfl (decide_eq_false hc5)) ?_)
                clear hE a; intro a hE
                refine p_nil ?_
                refine x_norm ?_
                refine c_cond (t := false) hE rfl ?_
                refine wp_skip ?_
                refine x_norm ?_
                refine c_reg R15_14_l ?_
                refine p_cons (s_still p15_14_0 hE wn_none rfl (st_move rfl) ?_)
                clear hE a; intro a hE
                refine p_cons (s_still p15_14_1 hE wn_none rfl (st_assign rfl) ?_)
                clear hE a; intro a hE
                refine p_nil ?_
                refine x_norm ?_
                refine wp_ret ?_
                refine ret_one (v := Value.int .i64 (NF x : Int)) rfl hE (.tmp rfl .nil) ?_
                have hr := rnd_NF hR_x.1 (show x < 4647714815446351872 by omega)
                rw [if_neg (fun h => h.elim hGT (fun h2 => hOD h2.2))] at hr
                have e9 : costV x = (NF x : Int) := by
                  unfold costV
                  rw [if_pos hR_x, if_neg hG]
                  split <;> omega
                exact ⟨by rw [← hv, e9], K_0⟩
          ·
            refine c_reg R15_10_l ?_
            refine p_cons (s_still p15_10_0 hE wn_none rfl (st_move rfl) ?_)
            clear hE a; intro a hE
            refine p_cons (s_still p15_10_1 hE wn_none rfl (st_fgtr (b := false) rfl rfl (hs2.trans (decide_eq_false hGT))) ?_)
            clear hE a; intro a hE
            refine p_cons (s_still p15_10_2 hE wn_none rfl (st_move rfl) ?_)
            clear hE a; intro a hE
            refine p_cons (s_still p15_10_3 hE (wn_some g15_10_2 rfl rfl) rfl (st_move rfl) ?_)
            clear hE a; intro a hE
            refine p_cons (s_still p15_10_4 hE (wn_some g15_10_2 rfl rfl) rfl (st_feql (b := false) rfl rfl (hs3.trans (decide_eq_false hEQ))) ?_)
            clear hE a; intro a hE
            refine p_cons (s_still p15_10_5 hE (wn_some g15_10_2 rfl rfl) rfl (st_move rfl) ?_)
            clear hE a; intro a hE
            refine p_cons (s_skip p15_10_6 hE (wn_some g15_10_5 rfl rfl) rfl ?_)
            clear hE a; intro a hE
            refine p_cons (s_skip p15_10_7 hE (wn_some g15_10_5 rfl rfl) rfl ?_)
            clear hE a; intro a hE
            refine p_cons (s_skip p15_10_8 hE (wn_some g15_10_5 rfl rfl) rfl ?_)
            clear hE a; intro a hE
            refine p_cons (s_still p15_10_9 hE (wn_some g15_10_2 rfl rfl) rfl (st_pick rfl rfl) ?_)
            clear hE a; intro a hE
            refine p_cons (s_still p15_10_10 hE wn_none rfl (st_pick rfl rfl) ?_)
            clear hE a; intro a hE
            refine p_nil ?_
            refine x_norm ?_
            refine c_cond (t := false) hE rfl ?_
            refine wp_skip ?_
            refine x_norm ?_
            refine wp_seq ?_
            refine c_reg R15_12_l ?_
            refine p_cons (s_still p15_12_0 hE wn_none rfl (st_move rfl) ?_)
            clear hE a; intro a hE
            rcases Decidable.em (65535 < (NF x : Int)) with hc6 | hc6
            ·
              refine p_cons (s_still (v := Value.bool true) p15_12_1 hE wn_none rfl (st_gtr rfl rfl (decide_eq_true hc6)) ?_)
              clear hE a; intro a hE
              refine p_nil ?_
              refine x_norm ?_
              refine c_cond (t := true) hE rfl ?_
              refine c_reg R15_13_l ?_
              refine p_cons (s_still p15_13_0 hE wn_none rfl (st_assign rfl) ?_)
              clear hE a; intro a hE
              refine p_nil ?_
              refine x_norm ?_
              refine wp_ret ?_
              refine x_ret ?_
              refine ret_one (v := Value.int .i64 65535) rfl hE (.tmp rfl .nil) ?_
              have hr := rnd_NF hR_x.1 (show x < 4647714815446351872 by omega)
              rw [if_neg (fun h => h.elim hGT (fun h2 => hEQ h2.1))] at hr
              have e9 : costV x = 65535 := by
                unfold costV
                rw [if_pos hR_x, if_neg hG]
                split <;> omega
              exact ⟨by rw [← hv, e9], K_0⟩
            ·
              refine p_cons (s_still (v := Value.bool false) p15_12_1 hE wn_none rfl (st_gtr rfl rfl (decide_eq_false hc6)) ?_)
              clear hE a; intro a hE
              refine p_nil ?_
              refine x_norm ?_
              refine c_cond (t := false) hE rfl ?_
              refine wp_skip ?_
              refine x_norm ?_
              refine c_reg R15_14_l ?_
              refine p_cons (s_still p15_14_0 hE wn_none rfl (st_move rfl) ?_)
              clear hE a; intro a hE
              refine p_cons (s_still p15_14_1 hE wn_none rfl (st_assign rfl) ?_)
              clear hE a; intro a hE
              refine p_nil ?_
              refine x_norm ?_
              refine wp_ret ?_
              refine ret_one (v := Value.int .i64 (NF x : Int)) rfl hE (.tmp rfl .nil) ?_
              have hr := rnd_NF hR_x.1 (show x < 4647714815446351872 by omega)
              rw [if_neg (fun h => h.elim hGT (fun h2 => hEQ h2.1))] at hr
              have e9 : costV x = (NF x : Int) := by
                unfold costV
                rw [if_pos hR_x, if_neg hG]
                split <;> omega
              exact ⟨by rw [← hv, e9], K_0⟩
theorem R13_0_l : List.range (regOf Try.f13 0).size = [0, 1] := by kernel_rfl
theorem R13_1_l : List.range (regOf Try.f13 1).size = [0, 1, 2, 3, 4, 5, 6] := by kernel_rfl
theorem R13_2_l : List.range (regOf Try.f13 2).size = [0, 1] := by kernel_rfl
theorem R13_3_l : List.range (regOf Try.f13 3).size = [0, 1, 2] := by kernel_rfl
theorem R13_4_l : List.range (regOf Try.f13 4).size = [0, 1, 2] := by kernel_rfl
theorem R13_5_l : List.range (regOf Try.f13 5).size = [0, 1, 2, 3, 4] := by kernel_rfl
theorem body13 : Try.f13.body = some (.seq (.region 0 (regOf Try.f13 0) false) (.seq (.block 0 (.seq (.region 1 (regOf Try.f13 1) false) (.cond (Operand.tmp 4) (.seq (.region 2 (regOf Try.f13 2) false) (.ret)) (.seq (.region 3 (regOf Try.f13 3) false) (.cond (Operand.tmp 11) (.seq (.region 4 (regOf Try.f13 4) false) (.ret)) (.skip)))))) (.seq (.region 5 (regOf Try.f13 5) false) (.ret)))) := by kernel_rfl
theorem p13_0_0 : pj (regOf Try.f13 0) 0 = some (some 2, Op.assign (Operand.const (Value.float FloatKind.f64 0)), 22, none) := by kernel_rfl
theorem p13_0_1 : pj (regOf Try.f13 0) 1 = some (some 3, Op.assign (Operand.const (Value.int IntKind.i64 0)), 23, none) := by kernel_rfl
theorem p13_1_0 : pj (regOf Try.f13 1) 0 = some (some 5, Op.move (Operand.tmp 0), 3, none) := by kernel_rfl
theorem p13_1_1 : pj (regOf Try.f13 1) 1 = some (some 6, Op.binOp BinOp.lss 3 (Operand.tmp 5) (Operand.const (Value.int IntKind.i64 128)) 3, 4, none) := by kernel_rfl
theorem p13_1_2 : pj (regOf Try.f13 1) 2 = some (some 7, Op.move (Operand.tmp 6), 4, none) := by kernel_rfl
theorem p13_1_3 : pj (regOf Try.f13 1) 3 = some (some 8, Op.move (Operand.tmp 0), 3, some (2, false)) := by kernel_rfl
theorem g13_1_2 : dstOf (regOf Try.f13 1) 2 = some 7 := by kernel_rfl
theorem p13_1_4 : pj (regOf Try.f13 1) 4 = some (some 9, Op.binOp BinOp.gtr 3 (Operand.tmp 8) (Operand.const (Value.int IntKind.i64 65535)) 3, 4, some (2, false)) := by kernel_rfl
theorem p13_1_5 : pj (regOf Try.f13 1) 5 = some (some 10, Op.pick (Operand.tmp 7) (Operand.const (Value.bool true)) (Operand.tmp 9), 4, none) := by kernel_rfl
theorem p13_1_6 : pj (regOf Try.f13 1) 6 = some (some 4, Op.assign (Operand.tmp 10), 4, none) := by kernel_rfl
theorem p13_2_0 : pj (regOf Try.f13 2) 0 = some (some 2, Op.assign (Operand.const (Value.float FloatKind.f64 0)), 22, none) := by kernel_rfl
theorem p13_2_1 : pj (regOf Try.f13 2) 1 = some (some 3, Op.assign (Operand.const (Value.int IntKind.i64 1)), 23, none) := by kernel_rfl
set_option maxHeartbeats 4000000 in
theorem Float_no (c : Int) (h : ¬ (128 ≤ c ∧ c ≤ 65535)) (w : World) : Calls Try.prog 13 #[.int .i64 c] w fun e w' => e = .returned (.tuple #[.float .f64 0, .int .i64 1]) ∧ Kp w w' (fun _ => False) := by
  have K_0 := Kp.refl w (fun _ => False)
  refine enter (args := [Value.int .i64 c]) (n := 18) Try.func13 body13 rfl rfl rfl ?_
  intro a hE
  rcases Decidable.em (c < 128) with hLO | hLO
  ·
    refine c_reg R13_0_l ?_
    refine p_cons (s_still p13_0_0 hE wn_none rfl (st_assign rfl) ?_)
    clear hE a; intro a hE
    refine p_cons (s_still p13_0_1 hE wn_none rfl (st_assign rfl) ?_)
    clear hE a; intro a hE
    refine p_nil ?_
    refine x_norm ?_
    refine wp_seq ?_
    refine wp_block ?_
    refine c_reg R13_1_l ?_
    refine p_cons (s_still p13_1_0 hE wn_none rfl (st_move rfl) ?_)
    clear hE a; intro a hE
    refine p_cons (s_still p13_1_1 hE wn_none rfl (st_lss (b := true) rfl rfl (decide_eq_true (by omega))) ?_)
    clear hE a; intro a hE
    refine p_cons (s_still p13_1_2 hE wn_none rfl (st_move rfl) ?_)
    clear hE a; intro a hE
    refine p_cons (s_skip p13_1_3 hE (wn_some g13_1_2 rfl rfl) rfl ?_)
    clear hE a; intro a hE
    refine p_cons (s_skip p13_1_4 hE (wn_some g13_1_2 rfl rfl) rfl ?_)
    clear hE a; intro a hE
    refine p_cons (s_still p13_1_5 hE wn_none rfl (st_pick rfl rfl) ?_)
    clear hE a; intro a hE
    refine p_cons (s_still p13_1_6 hE wn_none rfl (st_assign rfl) ?_)
    clear hE a; intro a hE
    refine p_nil ?_
    refine x_norm ?_
    refine c_cond (t := true) hE rfl ?_
    refine c_reg R13_2_l ?_
    refine p_cons (s_still p13_2_0 hE wn_none rfl (st_assign rfl) ?_)
    clear hE a; intro a hE
    refine p_cons (s_still p13_2_1 hE wn_none rfl (st_assign rfl) ?_)
    clear hE a; intro a hE
    refine p_nil ?_
    refine x_norm ?_
    refine wp_ret ?_
    refine x_retB ?_
    refine x_ret ?_
    refine ret_list (rs := [.tmp 2, .tmp 3]) (vs := [Value.float .f64 0, Value.int .i64 1]) rfl hE (.tmp rfl (.tmp rfl .nil)) rfl ?_
    exact ⟨rfl, K_0⟩
  ·
    refine c_reg R13_0_l ?_
    refine p_cons (s_still p13_0_0 hE wn_none rfl (st_assign rfl) ?_)
    clear hE a; intro a hE
    refine p_cons (s_still p13_0_1 hE wn_none rfl (st_assign rfl) ?_)
    clear hE a; intro a hE
    refine p_nil ?_
    refine x_norm ?_
    refine wp_seq ?_
    refine wp_block ?_
    refine c_reg R13_1_l ?_
    refine p_cons (s_still p13_1_0 hE wn_none rfl (st_move rfl) ?_)
    clear hE a; intro a hE
    refine p_cons (s_still p13_1_1 hE wn_none rfl (st_lss (b := false) rfl rfl (decide_eq_false (by omega))) ?_)
    clear hE a; intro a hE
    refine p_cons (s_still p13_1_2 hE wn_none rfl (st_move rfl) ?_)
    clear hE a; intro a hE
    refine p_cons (s_still p13_1_3 hE (wn_some g13_1_2 rfl rfl) rfl (st_move rfl) ?_)
    clear hE a; intro a hE
    refine p_cons (s_still p13_1_4 hE (wn_some g13_1_2 rfl rfl) rfl (st_gtr (b := true) rfl rfl (decide_eq_true (by omega))) ?_)
    clear hE a; intro a hE
    refine p_cons (s_still p13_1_5 hE wn_none rfl (st_pick rfl rfl) ?_)
    clear hE a; intro a hE
    refine p_cons (s_still p13_1_6 hE wn_none rfl (st_assign rfl) ?_)
    clear hE a; intro a hE
    refine p_nil ?_
    refine x_norm ?_
    refine c_cond (t := true) hE rfl ?_
    refine c_reg R13_2_l ?_
    refine p_cons (s_still p13_2_0 hE wn_none rfl (st_assign rfl) ?_)
    clear hE a; intro a hE
    refine p_cons (s_still p13_2_1 hE wn_none rfl (st_assign rfl) ?_)
    clear hE a; intro a hE
    refine p_nil ?_
    refine x_norm ?_
    refine wp_ret ?_
    refine x_retB ?_
    refine x_ret ?_
    refine ret_list (rs := [.tmp 2, .tmp 3]) (vs := [Value.float .f64 0, Value.int .i64 1]) rfl hE (.tmp rfl (.tmp rfl .nil)) rfl ?_
    exact ⟨rfl, K_0⟩
theorem p13_3_0 : pj (regOf Try.f13 3) 0 = some (some 12, Op.move (Operand.tmp 0), 3, none) := by kernel_rfl
theorem p13_3_1 : pj (regOf Try.f13 3) 1 = some (some 13, Op.binOp BinOp.eql 3 (Operand.tmp 12) (Operand.const (Value.int IntKind.i64 65535)) 3, 4, none) := by kernel_rfl
theorem p13_3_2 : pj (regOf Try.f13 3) 2 = some (some 11, Op.assign (Operand.tmp 13), 4, none) := by kernel_rfl
theorem p13_4_0 : pj (regOf Try.f13 4) 0 = some (some 14, Op.call { callee := Callee.value (Operand.func 45), args := #[Operand.const (Value.int IntKind.i64 1)], argTypes := #[3] }, 22, none) := by kernel_rfl
theorem cl45 : callable Try.f45 = true := by kernel_rfl
theorem p13_4_1 : pj (regOf Try.f13 4) 1 = some (some 2, Op.assign (Operand.tmp 14), 22, none) := by kernel_rfl
theorem p13_4_2 : pj (regOf Try.f13 4) 2 = some (some 3, Op.assign (Operand.const (Value.int IntKind.i64 0)), 23, none) := by kernel_rfl
set_option maxHeartbeats 4000000 in
theorem Float_inf  (w : World) : Calls Try.prog 13 #[.int .i64 65535] w fun e w' => e = .returned (.tuple #[.float .f64 9218868437227405312, .int .i64 0]) ∧ Kp w w' (fun _ => False) := by
  have K_0 := Kp.refl w (fun _ => False)
  refine enter (args := [Value.int .i64 65535]) (n := 18) Try.func13 body13 rfl rfl rfl ?_
  intro a hE
  refine c_reg R13_0_l ?_
  refine p_cons (s_still p13_0_0 hE wn_none rfl (st_assign rfl) ?_)
  clear hE a; intro a hE
  refine p_cons (s_still p13_0_1 hE wn_none rfl (st_assign rfl) ?_)
  clear hE a; intro a hE
  refine p_nil ?_
  refine x_norm ?_
  refine wp_seq ?_
  refine wp_block ?_
  refine c_reg R13_1_l ?_
  refine p_cons (s_still p13_1_0 hE wn_none rfl (st_move rfl) ?_)
  clear hE a; intro a hE
  refine p_cons (s_still p13_1_1 hE wn_none rfl (st_lss (b := false) rfl rfl (by decide)) ?_)
  clear hE a; intro a hE
  refine p_cons (s_still p13_1_2 hE wn_none rfl (st_move rfl) ?_)
  clear hE a; intro a hE
  refine p_cons (s_still p13_1_3 hE (wn_some g13_1_2 rfl rfl) rfl (st_move rfl) ?_)
  clear hE a; intro a hE
  refine p_cons (s_still p13_1_4 hE (wn_some g13_1_2 rfl rfl) rfl (st_gtr (b := false) rfl rfl (by decide)) ?_)
  clear hE a; intro a hE
  refine p_cons (s_still p13_1_5 hE wn_none rfl (st_pick rfl rfl) ?_)
  clear hE a; intro a hE
  refine p_cons (s_still p13_1_6 hE wn_none rfl (st_assign rfl) ?_)
  clear hE a; intro a hE
  refine p_nil ?_
  refine x_norm ?_
  refine c_cond (t := false) hE rfl ?_
  refine c_reg R13_3_l ?_
  refine p_cons (s_still p13_3_0 hE wn_none rfl (st_move rfl) ?_)
  clear hE a; intro a hE
  refine p_cons (s_still p13_3_1 hE wn_none rfl (st_eql (b := true) rfl rfl (by decide)) ?_)
  clear hE a; intro a hE
  refine p_cons (s_still p13_3_2 hE wn_none rfl (st_assign rfl) ?_)
  clear hE a; intro a hE
  refine p_nil ?_
  refine x_norm ?_
  refine c_cond (t := true) hE rfl ?_
  refine c_reg R13_4_l ?_
  refine p_cons (s_call (xs := [Operand.const (Value.int IntKind.i64 1)]) (args := [Value.int .i64 1]) p13_4_0 hE wn_none rfl rfl Try.func45 cl45 (inf_any  _) ?_)
  rintro e w1 ⟨rfl, hk⟩
  replace K_0 := K_0.then_ hk (fun _ h => h.elim)
  refine ⟨_, rfl, ?_⟩
  clear hE a; intro a hE
  refine p_cons (s_still p13_4_1 hE wn_none rfl (st_assign rfl) ?_)
  clear hE a; intro a hE
  refine p_cons (s_still p13_4_2 hE wn_none rfl (st_assign rfl) ?_)
  clear hE a; intro a hE
  refine p_nil ?_
  refine x_norm ?_
  refine wp_ret ?_
  refine x_retB ?_
  refine x_ret ?_
  refine ret_list (rs := [.tmp 2, .tmp 3]) (vs := [Value.float .f64 9218868437227405312, Value.int .i64 0]) rfl hE (.tmp rfl (.tmp rfl .nil)) rfl ?_
  exact ⟨rfl, K_0⟩
theorem p13_5_0 : pj (regOf Try.f13 5) 0 = some (some 15, Op.move (Operand.tmp 0), 3, none) := by kernel_rfl
theorem p13_5_1 : pj (regOf Try.f13 5) 1 = some (some 16, Op.convert 3 22 (Operand.tmp 15), 22, none) := by kernel_rfl
theorem p13_5_2 : pj (regOf Try.f13 5) 2 = some (some 17, Op.binOp BinOp.quo 22 (Operand.tmp 16) (Operand.const (Value.float FloatKind.f64 4638707616191610880)) 22, 22, none) := by kernel_rfl
theorem p13_5_3 : pj (regOf Try.f13 5) 3 = some (some 2, Op.assign (Operand.tmp 17), 22, none) := by kernel_rfl
theorem p13_5_4 : pj (regOf Try.f13 5) 4 = some (some 3, Op.assign (Operand.const (Value.int IntKind.i64 0)), 23, none) := by kernel_rfl
set_option maxHeartbeats 4000000 in
theorem Float_ok (c z : Nat) (h1 : 128 ≤ c) (h2 : c < 65535) (hz : double.div (fl c) 4638707616191610880 = some z) (w : World) : Calls Try.prog 13 #[.int .i64 (c : Int)] w fun e w' => e = .returned (.tuple #[.float .f64 z, .int .i64 0]) ∧ Kp w w' (fun _ => False) := by
  have K_0 := Kp.refl w (fun _ => False)
  refine enter (args := [Value.int .i64 (c : Int)]) (n := 18) Try.func13 body13 rfl rfl rfl ?_
  intro a hE
  refine c_reg R13_0_l ?_
  refine p_cons (s_still p13_0_0 hE wn_none rfl (st_assign rfl) ?_)
  clear hE a; intro a hE
  refine p_cons (s_still p13_0_1 hE wn_none rfl (st_assign rfl) ?_)
  clear hE a; intro a hE
  refine p_nil ?_
  refine x_norm ?_
  refine wp_seq ?_
  refine wp_block ?_
  refine c_reg R13_1_l ?_
  refine p_cons (s_still p13_1_0 hE wn_none rfl (st_move rfl) ?_)
  clear hE a; intro a hE
  refine p_cons (s_still p13_1_1 hE wn_none rfl (st_lss (b := false) rfl rfl (decide_eq_false (by omega))) ?_)
  clear hE a; intro a hE
  refine p_cons (s_still p13_1_2 hE wn_none rfl (st_move rfl) ?_)
  clear hE a; intro a hE
  refine p_cons (s_still p13_1_3 hE (wn_some g13_1_2 rfl rfl) rfl (st_move rfl) ?_)
  clear hE a; intro a hE
  refine p_cons (s_still p13_1_4 hE (wn_some g13_1_2 rfl rfl) rfl (st_gtr (b := false) rfl rfl (decide_eq_false (by omega))) ?_)
  clear hE a; intro a hE
  refine p_cons (s_still p13_1_5 hE wn_none rfl (st_pick rfl rfl) ?_)
  clear hE a; intro a hE
  refine p_cons (s_still p13_1_6 hE wn_none rfl (st_assign rfl) ?_)
  clear hE a; intro a hE
  refine p_nil ?_
  refine x_norm ?_
  refine c_cond (t := false) hE rfl ?_
  refine c_reg R13_3_l ?_
  refine p_cons (s_still p13_3_0 hE wn_none rfl (st_move rfl) ?_)
  clear hE a; intro a hE
  refine p_cons (s_still p13_3_1 hE wn_none rfl (st_eql (b := false) rfl rfl (decide_eq_false (by omega))) ?_)
  clear hE a; intro a hE
  refine p_cons (s_still p13_3_2 hE wn_none rfl (st_assign rfl) ?_)
  clear hE a; intro a hE
  refine p_nil ?_
  refine x_norm ?_
  refine c_cond (t := false) hE rfl ?_
  refine wp_skip ?_
  refine x_normB ?_
  refine x_norm ?_
  refine c_reg R13_5_l ?_
  refine p_cons (s_still p13_5_0 hE wn_none rfl (st_move rfl) ?_)
  clear hE a; intro a hE
  refine p_cons (s_still p13_5_1 hE wn_none rfl (st_i2f (z := (fl c)) (by kernel_rfl) Try.underlying22 rfl (i2f_nat _)) ?_)
  clear hE a; intro a hE
  refine p_cons (s_still p13_5_2 hE wn_none rfl (st_farith (z := z) rfl rfl rfl hz) ?_)
  clear hE a; intro a hE
  refine p_cons (s_still p13_5_3 hE wn_none rfl (st_assign rfl) ?_)
  clear hE a; intro a hE
  refine p_cons (s_still p13_5_4 hE wn_none rfl (st_assign rfl) ?_)
  clear hE a; intro a hE
  refine p_nil ?_
  refine x_norm ?_
  refine wp_ret ?_
  refine ret_list (rs := [.tmp 2, .tmp 3]) (vs := [Value.float .f64 z, Value.int .i64 0]) rfl hE (.tmp rfl (.tmp rfl .nil)) rfl ?_
  exact ⟨rfl, K_0⟩
theorem R16_0_l : List.range (regOf Try.f16 0).size = [0] := by kernel_rfl
theorem R16_1_l : List.range (regOf Try.f16 1).size = [0, 1] := by kernel_rfl
theorem R16_2_l : List.range (regOf Try.f16 2).size = [0, 1, 2] := by kernel_rfl
theorem R16_3_l : List.range (regOf Try.f16 3).size = [0, 1] := by kernel_rfl
theorem R16_4_l : List.range (regOf Try.f16 4).size = [0, 1, 2] := by kernel_rfl
theorem R16_5_l : List.range (regOf Try.f16 5).size = [0, 1, 2] := by kernel_rfl
theorem body16 : Try.f16.body = some (.seq (.region 0 (regOf Try.f16 0) false) (.seq (.seq (.region 1 (regOf Try.f16 1) false) (.cond (Operand.tmp 6) (.region 2 (regOf Try.f16 2) false) (.seq (.region 3 (regOf Try.f16 3) false) (.cond (Operand.tmp 10) (.region 4 (regOf Try.f16 4) false) (.skip))))) (.seq (.region 5 (regOf Try.f16 5) false) (.ret)))) := by kernel_rfl
theorem p16_0_0 : pj (regOf Try.f16 0) 0 = some (some 4, Op.assign (Operand.const (Value.bool false)), 4, none) := by kernel_rfl
theorem p16_1_0 : pj (regOf Try.f16 1) 0 = some (some 5, Op.move (Operand.tmp 1), 3, none) := by kernel_rfl
theorem p16_1_1 : pj (regOf Try.f16 1) 1 = some (some 6, Op.binOp BinOp.eql 3 (Operand.tmp 5) (Operand.const (Value.int IntKind.i64 0)) 3, 4, none) := by kernel_rfl
theorem p16_3_0 : pj (regOf Try.f16 3) 0 = some (some 9, Op.move (Operand.tmp 1), 3, none) := by kernel_rfl
theorem p16_3_1 : pj (regOf Try.f16 3) 1 = some (some 10, Op.binOp BinOp.lss 3 (Operand.tmp 9) (Operand.const (Value.int IntKind.i64 0)) 3, 4, none) := by kernel_rfl
theorem p16_5_0 : pj (regOf Try.f16 5) 0 = some (some 13, Op.move (Operand.tmp 0), 22, none) := by kernel_rfl
theorem p16_5_1 : pj (regOf Try.f16 5) 1 = some (some 14, Op.binOp BinOp.gtr 22 (Operand.tmp 13) (Operand.const (Value.float FloatKind.f64 9218868437227405311)) 22, 4, none) := by kernel_rfl
theorem p16_5_2 : pj (regOf Try.f16 5) 2 = some (some 4, Op.assign (Operand.tmp 14), 4, none) := by kernel_rfl
set_option maxHeartbeats 4000000 in
theorem isinf_ok (w : World) : Calls Try.prog 16 #[.float .f64 9218868437227405312, .int .i64 1] w fun e w' => e = .returned (.bool true) ∧ Kp w w' (fun _ => False) := by
  have K_0 := Kp.refl w (fun _ => False)
  refine enter (args := [Value.float .f64 9218868437227405312, Value.int .i64 1]) (n := 15) Try.func16 body16 rfl rfl rfl ?_
  intro a hE
  refine c_reg R16_0_l ?_
  refine p_cons (s_still p16_0_0 hE wn_none rfl (st_assign rfl) ?_)
  clear hE a; intro a hE
  refine p_nil ?_
  refine x_norm ?_
  refine wp_seq ?_
  refine c_reg R16_1_l ?_
  refine p_cons (s_still p16_1_0 hE wn_none rfl (st_move rfl) ?_)
  clear hE a; intro a hE
  refine p_cons (s_still p16_1_1 hE wn_none rfl (st_eql (b := false) rfl rfl (by decide)) ?_)
  clear hE a; intro a hE
  refine p_nil ?_
  refine x_norm ?_
  refine c_cond (t := false) hE rfl ?_
  refine c_reg R16_3_l ?_
  refine p_cons (s_still p16_3_0 hE wn_none rfl (st_move rfl) ?_)
  clear hE a; intro a hE
  refine p_cons (s_still p16_3_1 hE wn_none rfl (st_lss (b := false) rfl rfl (by decide)) ?_)
  clear hE a; intro a hE
  refine p_nil ?_
  refine x_norm ?_
  refine c_cond (t := false) hE rfl ?_
  refine wp_skip ?_
  refine x_norm ?_
  refine c_reg R16_5_l ?_
  refine p_cons (s_still p16_5_0 hE wn_none rfl (st_move rfl) ?_)
  clear hE a; intro a hE
  refine p_cons (s_still p16_5_1 hE wn_none rfl (st_fgtr (b := true) rfl rfl (by decide +kernel)) ?_)
  clear hE a; intro a hE
  refine p_cons (s_still p16_5_2 hE wn_none rfl (st_assign rfl) ?_)
  clear hE a; intro a hE
  refine p_nil ?_
  refine x_norm ?_
  refine wp_ret ?_
  refine ret_one (v := Value.bool true) rfl hE (.tmp rfl .nil) ?_
  exact ⟨rfl, K_0⟩
theorem R4_0_l : List.range (regOf Try.f4 0).size = [0] := by kernel_rfl
theorem R4_1_l : List.range (regOf Try.f4 1).size = [0, 1, 2, 3, 4, 5, 6] := by kernel_rfl
theorem R4_2_l : List.range (regOf Try.f4 2).size = [0, 1, 2, 3, 4, 5, 6] := by kernel_rfl
theorem R4_3_l : List.range (regOf Try.f4 3).size = [0, 1, 2, 3, 4, 5, 6, 7, 8, 9, 10, 11, 12, 13, 14, 15, 16, 17, 18, 19, 20, 21, 22, 23, 24] := by kernel_rfl
theorem R4_4_l : List.range (regOf Try.f4 4).size = [0] := by kernel_rfl
theorem R4_5_l : List.range (regOf Try.f4 5).size = [0, 1, 2, 3, 4, 5] := by kernel_rfl
theorem R4_6_l : List.range (regOf Try.f4 6).size = [0, 1, 2, 3, 4, 5, 6, 7, 8, 9] := by kernel_rfl
theorem R4_7_l : List.range (regOf Try.f4 7).size = [0, 1, 2, 3, 4, 5, 6] := by kernel_rfl
theorem R4_8_l : List.range (regOf Try.f4 8).size = [0, 1, 2, 3, 4, 5, 6, 7, 8, 9, 10, 11, 12, 13, 14, 15, 16, 17, 18, 19, 20, 21, 22, 23, 24, 25, 26, 27, 28, 29, 30, 31, 32, 33] := by kernel_rfl
theorem body4 : Try.f4.body = some (.seq (.region 0 (regOf Try.f4 0) false) (.seq (.region 1 (regOf Try.f4 1) false) (.seq (.region 2 (regOf Try.f4 2) false) (.seq (.seq (.region 3 (regOf Try.f4 3) false) (.cond (Operand.tmp 45) (.seq (.region 4 (regOf Try.f4 4) false) (.ret)) (.skip))) (.seq (.seq (.region 5 (regOf Try.f4 5) false) (.cond (Operand.tmp 51) (.seq (.region 6 (regOf Try.f4 6) false) (.ret)) (.skip))) (.seq (.region 7 (regOf Try.f4 7) false) (.seq (.region 8 (regOf Try.f4 8) false) (.ret)))))))) := by kernel_rfl
theorem p4_0_0 : pj (regOf Try.f4 0) 0 = some (some 4, Op.assign (Operand.const (Value.bool false)), 4, none) := by kernel_rfl
theorem p4_1_0 : pj (regOf Try.f4 1) 0 = some (some 12, Op.move (Operand.tmp 0), 22, none) := by kernel_rfl
theorem p4_1_1 : pj (regOf Try.f4 1) 1 = some (some 13, Op.call { callee := Callee.value (Operand.func 10), args := #[Operand.tmp 12], argTypes := #[22] }, 24, none) := by kernel_rfl
theorem cl10 : callable Try.f10 = true := by kernel_rfl
theorem p4_1_2 : pj (regOf Try.f4 1) 2 = some (some 11, Op.move (Operand.tmp 13), 24, none) := by kernel_rfl
theorem p4_1_3 : pj (regOf Try.f4 1) 3 = some (some 14, Op.extract (Operand.tmp 11) 0, 3, none) := by kernel_rfl
theorem p4_1_4 : pj (regOf Try.f4 1) 4 = some (some 15, Op.extract (Operand.tmp 11) 1, 23, none) := by kernel_rfl
theorem p4_1_5 : pj (regOf Try.f4 1) 5 = some (some 5, Op.assign (Operand.tmp 14), 3, none) := by kernel_rfl
theorem p4_1_6 : pj (regOf Try.f4 1) 6 = some (some 6, Op.assign (Operand.tmp 15), 23, none) := by kernel_rfl
theorem p4_2_0 : pj (regOf Try.f4 2) 0 = some (some 17, Op.move (Operand.tmp 1), 3, none) := by kernel_rfl
theorem p4_2_1 : pj (regOf Try.f4 2) 1 = some (some 18, Op.call { callee := Callee.value (Operand.func 13), args := #[Operand.tmp 17], argTypes := #[3] }, 28, none) := by kernel_rfl
theorem cl13 : callable Try.f13 = true := by kernel_rfl
theorem p4_2_2 : pj (regOf Try.f4 2) 2 = some (some 16, Op.move (Operand.tmp 18), 28, none) := by kernel_rfl
theorem p4_2_3 : pj (regOf Try.f4 2) 3 = some (some 19, Op.extract (Operand.tmp 16) 0, 22, none) := by kernel_rfl
theorem p4_2_4 : pj (regOf Try.f4 2) 4 = some (some 20, Op.extract (Operand.tmp 16) 1, 23, none) := by kernel_rfl
theorem p4_2_5 : pj (regOf Try.f4 2) 5 = some (some 7, Op.assign (Operand.tmp 19), 22, none) := by kernel_rfl
theorem p4_2_6 : pj (regOf Try.f4 2) 6 = some (some 8, Op.assign (Operand.tmp 20), 23, none) := by kernel_rfl
theorem p4_3_0 : pj (regOf Try.f4 3) 0 = some (some 21, Op.move (Operand.tmp 0), 22, none) := by kernel_rfl
theorem p4_3_1 : pj (regOf Try.f4 3) 1 = some (some 22, Op.call { callee := Callee.value (Operand.func 14), args := #[Operand.tmp 21], argTypes := #[22] }, 4, none) := by kernel_rfl
theorem cl14 : callable Try.f14 = true := by kernel_rfl
theorem p4_3_2 : pj (regOf Try.f4 3) 2 = some (some 23, Op.move (Operand.tmp 22), 4, none) := by kernel_rfl
theorem p4_3_3 : pj (regOf Try.f4 3) 3 = some (some 24, Op.move (Operand.tmp 6), 23, some (2, true)) := by kernel_rfl
theorem g4_3_2 : dstOf (regOf Try.f4 3) 2 = some 23 := by kernel_rfl
theorem p4_3_4 : pj (regOf Try.f4 3) 4 = some (some 25, Op.binOp BinOp.neq 23 (Operand.tmp 24) (Operand.const (Value.int IntKind.i64 0)) 23, 4, some (2, true)) := by kernel_rfl
theorem p4_3_5 : pj (regOf Try.f4 3) 5 = some (some 26, Op.move (Operand.tmp 25), 4, some (2, true)) := by kernel_rfl
theorem p4_3_6 : pj (regOf Try.f4 3) 6 = some (some 27, Op.move (Operand.tmp 5), 3, some (5, false)) := by kernel_rfl
theorem g4_3_5 : dstOf (regOf Try.f4 3) 5 = some 26 := by kernel_rfl
theorem p4_3_7 : pj (regOf Try.f4 3) 7 = some (some 28, Op.move (Operand.tmp 0), 22, some (5, false)) := by kernel_rfl
theorem p4_3_8 : pj (regOf Try.f4 3) 8 = some (some 29, Op.call { callee := Callee.value (Operand.func 15), args := #[Operand.tmp 28], argTypes := #[22] }, 3, some (5, false)) := by kernel_rfl
theorem cl15 : callable Try.f15 = true := by kernel_rfl
theorem p4_3_9 : pj (regOf Try.f4 3) 9 = some (some 30, Op.binOp BinOp.neq 3 (Operand.tmp 27) (Operand.tmp 29) 3, 4, some (5, false)) := by kernel_rfl
theorem p4_3_10 : pj (regOf Try.f4 3) 10 = some (some 31, Op.pick (Operand.tmp 26) (Operand.const (Value.bool true)) (Operand.tmp 30), 4, some (2, true)) := by kernel_rfl
theorem p4_3_11 : pj (regOf Try.f4 3) 11 = some (some 32, Op.pick (Operand.tmp 23) (Operand.tmp 31) (Operand.const (Value.bool false)), 4, none) := by kernel_rfl
theorem p4_3_12 : pj (regOf Try.f4 3) 12 = some (some 33, Op.move (Operand.tmp 32), 4, none) := by kernel_rfl
theorem p4_3_13 : pj (regOf Try.f4 3) 13 = some (some 34, Op.move (Operand.tmp 0), 22, some (12, false)) := by kernel_rfl
theorem g4_3_12 : dstOf (regOf Try.f4 3) 12 = some 33 := by kernel_rfl
theorem p4_3_14 : pj (regOf Try.f4 3) 14 = some (some 35, Op.call { callee := Callee.value (Operand.func 14), args := #[Operand.tmp 34], argTypes := #[22] }, 4, some (12, false)) := by kernel_rfl
theorem p4_3_15 : pj (regOf Try.f4 3) 15 = some (some 36, Op.unOp UnOp.not 4 (Operand.tmp 35), 4, some (12, false)) := by kernel_rfl
theorem p4_3_16 : pj (regOf Try.f4 3) 16 = some (some 37, Op.move (Operand.tmp 36), 4, some (12, false)) := by kernel_rfl
theorem p4_3_17 : pj (regOf Try.f4 3) 17 = some (some 38, Op.move (Operand.tmp 6), 23, some (16, true)) := by kernel_rfl
theorem g4_3_16 : dstOf (regOf Try.f4 3) 16 = some 37 := by kernel_rfl
theorem p4_3_18 : pj (regOf Try.f4 3) 18 = some (some 39, Op.binOp BinOp.neq 23 (Operand.tmp 38) (Operand.const (Value.int IntKind.i64 1)) 23, 4, some (16, true)) := by kernel_rfl
theorem p4_3_19 : pj (regOf Try.f4 3) 19 = some (some 40, Op.move (Operand.tmp 39), 4, some (16, true)) := by kernel_rfl
theorem p4_3_20 : pj (regOf Try.f4 3) 20 = some (some 41, Op.move (Operand.tmp 5), 3, some (19, false)) := by kernel_rfl
theorem g4_3_19 : dstOf (regOf Try.f4 3) 19 = some 40 := by kernel_rfl
theorem p4_3_21 : pj (regOf Try.f4 3) 21 = some (some 42, Op.binOp BinOp.neq 3 (Operand.tmp 41) (Operand.const (Value.int IntKind.i64 0)) 3, 4, some (19, false)) := by kernel_rfl
theorem p4_3_22 : pj (regOf Try.f4 3) 22 = some (some 43, Op.pick (Operand.tmp 40) (Operand.const (Value.bool true)) (Operand.tmp 42), 4, some (16, true)) := by kernel_rfl
theorem p4_3_23 : pj (regOf Try.f4 3) 23 = some (some 44, Op.pick (Operand.tmp 37) (Operand.tmp 43) (Operand.const (Value.bool false)), 4, some (12, false)) := by kernel_rfl
theorem p4_3_24 : pj (regOf Try.f4 3) 24 = some (some 45, Op.pick (Operand.tmp 33) (Operand.const (Value.bool true)) (Operand.tmp 44), 4, none) := by kernel_rfl
theorem p4_5_0 : pj (regOf Try.f4 5) 0 = some (some 46, Op.move (Operand.tmp 1), 3, none) := by kernel_rfl
theorem p4_5_1 : pj (regOf Try.f4 5) 1 = some (some 47, Op.binOp BinOp.lss 3 (Operand.tmp 46) (Operand.const (Value.int IntKind.i64 128)) 3, 4, none) := by kernel_rfl
theorem p4_5_2 : pj (regOf Try.f4 5) 2 = some (some 48, Op.move (Operand.tmp 47), 4, none) := by kernel_rfl
theorem p4_5_3 : pj (regOf Try.f4 5) 3 = some (some 49, Op.move (Operand.tmp 1), 3, some (2, false)) := by kernel_rfl
theorem g4_5_2 : dstOf (regOf Try.f4 5) 2 = some 48 := by kernel_rfl
theorem p4_5_4 : pj (regOf Try.f4 5) 4 = some (some 50, Op.binOp BinOp.gtr 3 (Operand.tmp 49) (Operand.const (Value.int IntKind.i64 65535)) 3, 4, some (2, false)) := by kernel_rfl
theorem p4_5_5 : pj (regOf Try.f4 5) 5 = some (some 51, Op.pick (Operand.tmp 48) (Operand.const (Value.bool true)) (Operand.tmp 50), 4, none) := by kernel_rfl
theorem p4_7_0 : pj (regOf Try.f4 7) 0 = some (some 62, Op.move (Operand.tmp 7), 22, none) := by kernel_rfl
theorem p4_7_1 : pj (regOf Try.f4 7) 1 = some (some 63, Op.call { callee := Callee.value (Operand.func 10), args := #[Operand.tmp 62], argTypes := #[22] }, 24, none) := by kernel_rfl
theorem p4_7_2 : pj (regOf Try.f4 7) 2 = some (some 61, Op.move (Operand.tmp 63), 24, none) := by kernel_rfl
theorem p4_7_3 : pj (regOf Try.f4 7) 3 = some (some 64, Op.extract (Operand.tmp 61) 0, 3, none) := by kernel_rfl
theorem p4_7_4 : pj (regOf Try.f4 7) 4 = some (some 65, Op.extract (Operand.tmp 61) 1, 23, none) := by kernel_rfl
theorem p4_7_5 : pj (regOf Try.f4 7) 5 = some (some 9, Op.assign (Operand.tmp 64), 3, none) := by kernel_rfl
theorem p4_7_6 : pj (regOf Try.f4 7) 6 = some (some 10, Op.assign (Operand.tmp 65), 23, none) := by kernel_rfl
theorem p4_8_0 : pj (regOf Try.f4 8) 0 = some (some 66, Op.call { callee := Callee.value (Operand.func 12), args := #[], argTypes := #[] }, 4, none) := by kernel_rfl
theorem cl12 : callable Try.f12 = true := by kernel_rfl
theorem p4_8_1 : pj (regOf Try.f4 8) 1 = some (some 67, Op.move (Operand.tmp 66), 4, none) := by kernel_rfl
theorem p4_8_2 : pj (regOf Try.f4 8) 2 = some (some 68, Op.move (Operand.tmp 8), 23, some (1, true)) := by kernel_rfl
theorem g4_8_1 : dstOf (regOf Try.f4 8) 1 = some 67 := by kernel_rfl
theorem p4_8_3 : pj (regOf Try.f4 8) 3 = some (some 69, Op.binOp BinOp.eql 23 (Operand.tmp 68) (Operand.const (Value.int IntKind.i64 0)) 23, 4, some (1, true)) := by kernel_rfl
theorem p4_8_4 : pj (regOf Try.f4 8) 4 = some (some 70, Op.pick (Operand.tmp 67) (Operand.tmp 69) (Operand.const (Value.bool false)), 4, none) := by kernel_rfl
theorem p4_8_5 : pj (regOf Try.f4 8) 5 = some (some 71, Op.move (Operand.tmp 70), 4, none) := by kernel_rfl
theorem p4_8_6 : pj (regOf Try.f4 8) 6 = some (some 72, Op.move (Operand.tmp 10), 23, some (5, true)) := by kernel_rfl
theorem g4_8_5 : dstOf (regOf Try.f4 8) 5 = some 71 := by kernel_rfl
theorem p4_8_7 : pj (regOf Try.f4 8) 7 = some (some 73, Op.binOp BinOp.eql 23 (Operand.tmp 72) (Operand.const (Value.int IntKind.i64 0)) 23, 4, some (5, true)) := by kernel_rfl
theorem p4_8_8 : pj (regOf Try.f4 8) 8 = some (some 74, Op.pick (Operand.tmp 71) (Operand.tmp 73) (Operand.const (Value.bool false)), 4, none) := by kernel_rfl
theorem p4_8_9 : pj (regOf Try.f4 8) 9 = some (some 75, Op.move (Operand.tmp 74), 4, none) := by kernel_rfl
theorem p4_8_10 : pj (regOf Try.f4 8) 10 = some (some 76, Op.move (Operand.tmp 9), 3, some (9, true)) := by kernel_rfl
theorem g4_8_9 : dstOf (regOf Try.f4 8) 9 = some 75 := by kernel_rfl
theorem p4_8_11 : pj (regOf Try.f4 8) 11 = some (some 77, Op.move (Operand.tmp 1), 3, some (9, true)) := by kernel_rfl
theorem p4_8_12 : pj (regOf Try.f4 8) 12 = some (some 78, Op.binOp BinOp.eql 3 (Operand.tmp 76) (Operand.tmp 77) 3, 4, some (9, true)) := by kernel_rfl
theorem p4_8_13 : pj (regOf Try.f4 8) 13 = some (some 79, Op.pick (Operand.tmp 75) (Operand.tmp 78) (Operand.const (Value.bool false)), 4, none) := by kernel_rfl
theorem p4_8_14 : pj (regOf Try.f4 8) 14 = some (some 80, Op.move (Operand.tmp 79), 4, none) := by kernel_rfl
theorem p4_8_15 : pj (regOf Try.f4 8) 15 = some (some 81, Op.move (Operand.tmp 1), 3, some (14, true)) := by kernel_rfl
theorem g4_8_14 : dstOf (regOf Try.f4 8) 14 = some 80 := by kernel_rfl
theorem p4_8_16 : pj (regOf Try.f4 8) 16 = some (some 82, Op.binOp BinOp.lss 3 (Operand.tmp 81) (Operand.const (Value.int IntKind.i64 65535)) 3, 4, some (14, true)) := by kernel_rfl
theorem p4_8_17 : pj (regOf Try.f4 8) 17 = some (some 83, Op.move (Operand.tmp 82), 4, some (14, true)) := by kernel_rfl
theorem p4_8_18 : pj (regOf Try.f4 8) 18 = some (some 84, Op.move (Operand.tmp 7), 22, some (17, true)) := by kernel_rfl
theorem g4_8_17 : dstOf (regOf Try.f4 8) 17 = some 83 := by kernel_rfl
theorem p4_8_19 : pj (regOf Try.f4 8) 19 = some (some 85, Op.binOp BinOp.mul 22 (Operand.tmp 84) (Operand.const (Value.float FloatKind.f64 4638707616191610880)) 22, 22, some (17, true)) := by kernel_rfl
theorem p4_8_20 : pj (regOf Try.f4 8) 20 = some (some 86, Op.move (Operand.tmp 1), 3, some (17, true)) := by kernel_rfl
theorem p4_8_21 : pj (regOf Try.f4 8) 21 = some (some 87, Op.convert 3 22 (Operand.tmp 86), 22, some (17, true)) := by kernel_rfl
theorem p4_8_22 : pj (regOf Try.f4 8) 22 = some (some 88, Op.binOp BinOp.eql 22 (Operand.tmp 85) (Operand.tmp 87) 22, 4, some (17, true)) := by kernel_rfl
theorem p4_8_23 : pj (regOf Try.f4 8) 23 = some (some 89, Op.pick (Operand.tmp 83) (Operand.tmp 88) (Operand.const (Value.bool false)), 4, some (14, true)) := by kernel_rfl
theorem p4_8_24 : pj (regOf Try.f4 8) 24 = some (some 90, Op.move (Operand.tmp 89), 4, some (14, true)) := by kernel_rfl
theorem p4_8_25 : pj (regOf Try.f4 8) 25 = some (some 91, Op.move (Operand.tmp 1), 3, some (24, false)) := by kernel_rfl
theorem g4_8_24 : dstOf (regOf Try.f4 8) 24 = some 90 := by kernel_rfl
theorem p4_8_26 : pj (regOf Try.f4 8) 26 = some (some 92, Op.binOp BinOp.eql 3 (Operand.tmp 91) (Operand.const (Value.int IntKind.i64 65535)) 3, 4, some (24, false)) := by kernel_rfl
theorem p4_8_27 : pj (regOf Try.f4 8) 27 = some (some 93, Op.move (Operand.tmp 92), 4, some (24, false)) := by kernel_rfl
theorem p4_8_28 : pj (regOf Try.f4 8) 28 = some (some 94, Op.move (Operand.tmp 7), 22, some (27, true)) := by kernel_rfl
theorem g4_8_27 : dstOf (regOf Try.f4 8) 27 = some 93 := by kernel_rfl
theorem p4_8_29 : pj (regOf Try.f4 8) 29 = some (some 95, Op.call { callee := Callee.value (Operand.func 16), args := #[Operand.tmp 94, Operand.const (Value.int IntKind.i64 1)], argTypes := #[22, 3] }, 4, some (27, true)) := by kernel_rfl
theorem cl16 : callable Try.f16 = true := by kernel_rfl
theorem p4_8_30 : pj (regOf Try.f4 8) 30 = some (some 96, Op.pick (Operand.tmp 93) (Operand.tmp 95) (Operand.const (Value.bool false)), 4, some (24, false)) := by kernel_rfl
theorem p4_8_31 : pj (regOf Try.f4 8) 31 = some (some 97, Op.pick (Operand.tmp 90) (Operand.const (Value.bool true)) (Operand.tmp 96), 4, some (14, true)) := by kernel_rfl
theorem p4_8_32 : pj (regOf Try.f4 8) 32 = some (some 98, Op.pick (Operand.tmp 80) (Operand.tmp 97) (Operand.const (Value.bool false)), 4, none) := by kernel_rfl
theorem p4_8_33 : pj (regOf Try.f4 8) 33 = some (some 4, Op.assign (Operand.tmp 98), 4, none) := by kernel_rfl
theorem p4_6_0 : pj (regOf Try.f4 6) 0 = some (some 52, Op.call { callee := Callee.value (Operand.func 12), args := #[], argTypes := #[] }, 4, none) := by kernel_rfl
theorem p4_6_1 : pj (regOf Try.f4 6) 1 = some (some 53, Op.move (Operand.tmp 52), 4, none) := by kernel_rfl
theorem p4_6_2 : pj (regOf Try.f4 6) 2 = some (some 54, Op.move (Operand.tmp 8), 23, some (1, true)) := by kernel_rfl
theorem g4_6_1 : dstOf (regOf Try.f4 6) 1 = some 53 := by kernel_rfl
theorem p4_6_3 : pj (regOf Try.f4 6) 3 = some (some 55, Op.binOp BinOp.eql 23 (Operand.tmp 54) (Operand.const (Value.int IntKind.i64 1)) 23, 4, some (1, true)) := by kernel_rfl
theorem p4_6_4 : pj (regOf Try.f4 6) 4 = some (some 56, Op.pick (Operand.tmp 53) (Operand.tmp 55) (Operand.const (Value.bool false)), 4, none) := by kernel_rfl
theorem p4_6_5 : pj (regOf Try.f4 6) 5 = some (some 57, Op.move (Operand.tmp 56), 4, none) := by kernel_rfl
theorem p4_6_6 : pj (regOf Try.f4 6) 6 = some (some 58, Op.move (Operand.tmp 7), 22, some (5, true)) := by kernel_rfl
theorem g4_6_5 : dstOf (regOf Try.f4 6) 5 = some 57 := by kernel_rfl
theorem p4_6_7 : pj (regOf Try.f4 6) 7 = some (some 59, Op.binOp BinOp.eql 22 (Operand.tmp 58) (Operand.const (Value.float FloatKind.f64 0)) 22, 4, some (5, true)) := by kernel_rfl
theorem p4_6_8 : pj (regOf Try.f4 6) 8 = some (some 60, Op.pick (Operand.tmp 57) (Operand.tmp 59) (Operand.const (Value.bool false)), 4, none) := by kernel_rfl
theorem p4_6_9 : pj (regOf Try.f4 6) 9 = some (some 4, Op.assign (Operand.tmp 60), 4, none) := by kernel_rfl
set_option maxHeartbeats 4000000 in
theorem walk (x : Nat) (c : Int) (w : World) (w0 : (Lit.float .f64 x).wf = true) (w1 : (Lit.int .i64 c).wf = true) : Calls Try.prog 4 #[.float .f64 x, .int .i64 c] w fun e w' => e = .returned (.bool true) ∧ Below w.heap.size w w' := by
  have K_0 := Kp.refl w (fun _ => False)
  replace w0 := wf_lt w0
  refine enter (args := [Value.float .f64 x, Value.int .i64 c]) (n := 99) Try.func4 body4 rfl rfl rfl ?_
  intro a hE
  refine c_reg R4_0_l ?_
  refine p_cons (s_still p4_0_0 hE wn_none rfl (st_assign rfl) ?_)
  clear hE a; intro a hE
  refine p_nil ?_
  refine x_norm ?_
  rcases Decidable.em (right x) with hR_x | hR_x
  ·
    rcases Decidable.em (128 ≤ c ∧ c ≤ 65535) with hC1 | hC1
    ·
      rcases Decidable.em (c = 65535) with hC2 | hC2
      ·
        subst hC2
        refine c_reg R4_1_l ?_
        refine p_cons (s_still p4_1_0 hE wn_none rfl (st_move rfl) ?_)
        clear hE a; intro a hE
        refine p_cons (s_call (xs := [Operand.tmp 12]) (args := [Value.float .f64 x]) p4_1_1 hE wn_none rfl rfl Try.func10 cl10 (cost_any x (by omega) _ 0 rfl (by unfold costE; rw [if_pos hR_x]) _) ?_)
        rintro e w1 ⟨rfl, hk⟩
        replace K_0 := K_0.then_ hk (fun _ h => h.elim)
        refine ⟨_, rfl, ?_⟩
        clear hE a; intro a hE
        refine p_cons (s_still p4_1_2 hE wn_none rfl (st_move rfl) ?_)
        clear hE a; intro a hE
        refine p_cons (s_still p4_1_3 hE wn_none rfl (st_extract rfl rfl) ?_)
        clear hE a; intro a hE
        refine p_cons (s_still p4_1_4 hE wn_none rfl (st_extract rfl rfl) ?_)
        clear hE a; intro a hE
        refine p_cons (s_still p4_1_5 hE wn_none rfl (st_assign rfl) ?_)
        clear hE a; intro a hE
        refine p_cons (s_still p4_1_6 hE wn_none rfl (st_assign rfl) ?_)
        clear hE a; intro a hE
        refine p_nil ?_
        refine x_norm ?_
        refine c_reg R4_2_l ?_
        refine p_cons (s_still p4_2_0 hE wn_none rfl (st_move rfl) ?_)
        clear hE a; intro a hE
        refine p_cons (s_call (xs := [Operand.tmp 17]) (args := [Value.int .i64 65535]) p4_2_1 hE wn_none rfl rfl Try.func13 cl13 (Float_inf  _) ?_)
        rintro e w2 ⟨rfl, hk⟩
        replace K_0 := K_0.then_ hk (fun _ h => h.elim)
        refine ⟨_, rfl, ?_⟩
        clear hE a; intro a hE
        refine p_cons (s_still p4_2_2 hE wn_none rfl (st_move rfl) ?_)
        clear hE a; intro a hE
        refine p_cons (s_still p4_2_3 hE wn_none rfl (st_extract rfl rfl) ?_)
        clear hE a; intro a hE
        refine p_cons (s_still p4_2_4 hE wn_none rfl (st_extract rfl rfl) ?_)
        clear hE a; intro a hE
        refine p_cons (s_still p4_2_5 hE wn_none rfl (st_assign rfl) ?_)
        clear hE a; intro a hE
        refine p_cons (s_still p4_2_6 hE wn_none rfl (st_assign rfl) ?_)
        clear hE a; intro a hE
        refine p_nil ?_
        refine x_norm ?_
        refine wp_seq ?_
        refine c_reg R4_3_l ?_
        refine p_cons (s_still p4_3_0 hE wn_none rfl (st_move rfl) ?_)
        clear hE a; intro a hE
        refine p_cons (s_call (xs := [Operand.tmp 21]) (args := [Value.float .f64 x]) p4_3_1 hE wn_none rfl rfl Try.func14 cl14 (rright_any x (by omega) true (decide_eq_true hR_x) _) ?_)
        rintro e w3 ⟨rfl, hk⟩
        replace K_0 := K_0.then_ hk (fun _ h => h.elim)
        refine ⟨_, rfl, ?_⟩
        clear hE a; intro a hE
        refine p_cons (s_still p4_3_2 hE wn_none rfl (st_move rfl) ?_)
        clear hE a; intro a hE
        refine p_cons (s_still p4_3_3 hE (wn_some g4_3_2 rfl rfl) rfl (st_move rfl) ?_)
        clear hE a; intro a hE
        refine p_cons (s_still p4_3_4 hE (wn_some g4_3_2 rfl rfl) rfl (st_neq (b := false) rfl rfl (by decide)) ?_)
        clear hE a; intro a hE
        refine p_cons (s_still p4_3_5 hE (wn_some g4_3_2 rfl rfl) rfl (st_move rfl) ?_)
        clear hE a; intro a hE
        refine p_cons (s_still p4_3_6 hE (wn_some g4_3_5 rfl rfl) rfl (st_move rfl) ?_)
        clear hE a; intro a hE
        refine p_cons (s_still p4_3_7 hE (wn_some g4_3_5 rfl rfl) rfl (st_move rfl) ?_)
        clear hE a; intro a hE
        refine p_cons (s_call (xs := [Operand.tmp 28]) (args := [Value.float .f64 x]) p4_3_8 hE (wn_some g4_3_5 rfl rfl) rfl rfl Try.func15 cl15 (rcost_any x hR_x _ rfl _) ?_)
        rintro e w4 ⟨rfl, hk⟩
        replace K_0 := K_0.then_ hk (fun _ h => h.elim)
        refine ⟨_, rfl, ?_⟩
        clear hE a; intro a hE
        refine p_cons (s_still p4_3_9 hE (wn_some g4_3_5 rfl rfl) rfl (st_neq (b := false) rfl rfl (by simp)) ?_)
        clear hE a; intro a hE
        refine p_cons (s_still p4_3_10 hE (wn_some g4_3_2 rfl rfl) rfl (st_pick rfl rfl) ?_)
        clear hE a; intro a hE
        refine p_cons (s_still p4_3_11 hE wn_none rfl (st_pick rfl rfl) ?_)
        clear hE a; intro a hE
        refine p_cons (s_still p4_3_12 hE wn_none rfl (st_move rfl) ?_)
        clear hE a; intro a hE
        refine p_cons (s_still p4_3_13 hE (wn_some g4_3_12 rfl rfl) rfl (st_move rfl) ?_)
        clear hE a; intro a hE
        refine p_cons (s_call (xs := [Operand.tmp 34]) (args := [Value.float .f64 x]) p4_3_14 hE (wn_some g4_3_12 rfl rfl) rfl rfl Try.func14 cl14 (rright_any x (by omega) true (decide_eq_true hR_x) _) ?_)
        rintro e w5 ⟨rfl, hk⟩
        replace K_0 := K_0.then_ hk (fun _ h => h.elim)
        refine ⟨_, rfl, ?_⟩
        clear hE a; intro a hE
        refine p_cons (s_still p4_3_15 hE (wn_some g4_3_12 rfl rfl) rfl (st_not rfl rfl) ?_)
        clear hE a; intro a hE
        refine p_cons (s_still p4_3_16 hE (wn_some g4_3_12 rfl rfl) rfl (st_move rfl) ?_)
        clear hE a; intro a hE
        refine p_cons (s_skip p4_3_17 hE (wn_some g4_3_16 rfl rfl) rfl ?_)
        clear hE a; intro a hE
        refine p_cons (s_skip p4_3_18 hE (wn_some g4_3_16 rfl rfl) rfl ?_)
        clear hE a; intro a hE
        refine p_cons (s_skip p4_3_19 hE (wn_some g4_3_16 rfl rfl) rfl ?_)
        clear hE a; intro a hE
        refine p_cons (s_skip p4_3_20 hE (wn_undef g4_3_19 rfl) rfl ?_)
        clear hE a; intro a hE
        refine p_cons (s_skip p4_3_21 hE (wn_undef g4_3_19 rfl) rfl ?_)
        clear hE a; intro a hE
        refine p_cons (s_skip p4_3_22 hE (wn_some g4_3_16 rfl rfl) rfl ?_)
        clear hE a; intro a hE
        refine p_cons (s_still p4_3_23 hE (wn_some g4_3_12 rfl rfl) rfl (st_pick rfl rfl) ?_)
        clear hE a; intro a hE
        refine p_cons (s_still p4_3_24 hE wn_none rfl (st_pick rfl rfl) ?_)
        clear hE a; intro a hE
        refine p_nil ?_
        refine x_norm ?_
        refine c_cond (t := false) hE rfl ?_
        refine wp_skip ?_
        refine x_norm ?_
        refine wp_seq ?_
        refine c_reg R4_5_l ?_
        refine p_cons (s_still p4_5_0 hE wn_none rfl (st_move rfl) ?_)
        clear hE a; intro a hE
        refine p_cons (s_still p4_5_1 hE wn_none rfl (st_lss (b := false) rfl rfl (by decide)) ?_)
        clear hE a; intro a hE
        refine p_cons (s_still p4_5_2 hE wn_none rfl (st_move rfl) ?_)
        clear hE a; intro a hE
        refine p_cons (s_still p4_5_3 hE (wn_some g4_5_2 rfl rfl) rfl (st_move rfl) ?_)
        clear hE a; intro a hE
        refine p_cons (s_still p4_5_4 hE (wn_some g4_5_2 rfl rfl) rfl (st_gtr (b := false) rfl rfl (by decide)) ?_)
        clear hE a; intro a hE
        refine p_cons (s_still p4_5_5 hE wn_none rfl (st_pick rfl rfl) ?_)
        clear hE a; intro a hE
        refine p_nil ?_
        refine x_norm ?_
        refine c_cond (t := false) hE rfl ?_
        refine wp_skip ?_
        refine x_norm ?_
        refine c_reg R4_7_l ?_
        refine p_cons (s_still p4_7_0 hE wn_none rfl (st_move rfl) ?_)
        clear hE a; intro a hE
        refine p_cons (s_call (xs := [Operand.tmp 62]) (args := [Value.float .f64 9218868437227405312]) p4_7_1 hE wn_none rfl rfl Try.func10 cl10 (cost_any 9218868437227405312 (by decide) 65535 0 (by decide +kernel) (by decide +kernel) _) ?_)
        rintro e w6 ⟨rfl, hk⟩
        replace K_0 := K_0.then_ hk (fun _ h => h.elim)
        refine ⟨_, rfl, ?_⟩
        clear hE a; intro a hE
        refine p_cons (s_still p4_7_2 hE wn_none rfl (st_move rfl) ?_)
        clear hE a; intro a hE
        refine p_cons (s_still p4_7_3 hE wn_none rfl (st_extract rfl rfl) ?_)
        clear hE a; intro a hE
        refine p_cons (s_still p4_7_4 hE wn_none rfl (st_extract rfl rfl) ?_)
        clear hE a; intro a hE
        refine p_cons (s_still p4_7_5 hE wn_none rfl (st_assign rfl) ?_)
        clear hE a; intro a hE
        refine p_cons (s_still p4_7_6 hE wn_none rfl (st_assign rfl) ?_)
        clear hE a; intro a hE
        refine p_nil ?_
        refine x_norm ?_
        refine c_reg R4_8_l ?_
        refine p_cons (s_call (xs := []) (args := []) p4_8_0 hE wn_none rfl rfl Try.func12 cl12 (known_any  _) ?_)
        rintro e w7 ⟨rfl, hk⟩
        replace K_0 := K_0.then_ hk (fun _ h => h.elim)
        refine ⟨_, rfl, ?_⟩
        clear hE a; intro a hE
        refine p_cons (s_still p4_8_1 hE wn_none rfl (st_move rfl) ?_)
        clear hE a; intro a hE
        refine p_cons (s_still p4_8_2 hE (wn_some g4_8_1 rfl rfl) rfl (st_move rfl) ?_)
        clear hE a; intro a hE
        refine p_cons (s_still p4_8_3 hE (wn_some g4_8_1 rfl rfl) rfl (st_eql (b := true) rfl rfl (by decide)) ?_)
        clear hE a; intro a hE
        refine p_cons (s_still p4_8_4 hE wn_none rfl (st_pick rfl rfl) ?_)
        clear hE a; intro a hE
        refine p_cons (s_still p4_8_5 hE wn_none rfl (st_move rfl) ?_)
        clear hE a; intro a hE
        refine p_cons (s_still p4_8_6 hE (wn_some g4_8_5 rfl rfl) rfl (st_move rfl) ?_)
        clear hE a; intro a hE
        refine p_cons (s_still p4_8_7 hE (wn_some g4_8_5 rfl rfl) rfl (st_eql (b := true) rfl rfl (by decide)) ?_)
        clear hE a; intro a hE
        refine p_cons (s_still p4_8_8 hE wn_none rfl (st_pick rfl rfl) ?_)
        clear hE a; intro a hE
        refine p_cons (s_still p4_8_9 hE wn_none rfl (st_move rfl) ?_)
        clear hE a; intro a hE
        refine p_cons (s_still p4_8_10 hE (wn_some g4_8_9 rfl rfl) rfl (st_move rfl) ?_)
        clear hE a; intro a hE
        refine p_cons (s_still p4_8_11 hE (wn_some g4_8_9 rfl rfl) rfl (st_move rfl) ?_)
        clear hE a; intro a hE
        refine p_cons (s_still p4_8_12 hE (wn_some g4_8_9 rfl rfl) rfl (st_eql (b := true) rfl rfl (by decide)) ?_)
        clear hE a; intro a hE
        refine p_cons (s_still p4_8_13 hE wn_none rfl (st_pick rfl rfl) ?_)
        clear hE a; intro a hE
        refine p_cons (s_still p4_8_14 hE wn_none rfl (st_move rfl) ?_)
        clear hE a; intro a hE
        refine p_cons (s_still p4_8_15 hE (wn_some g4_8_14 rfl rfl) rfl (st_move rfl) ?_)
        clear hE a; intro a hE
        refine p_cons (s_still p4_8_16 hE (wn_some g4_8_14 rfl rfl) rfl (st_lss (b := false) rfl rfl (by decide)) ?_)
        clear hE a; intro a hE
        refine p_cons (s_still p4_8_17 hE (wn_some g4_8_14 rfl rfl) rfl (st_move rfl) ?_)
        clear hE a; intro a hE
        refine p_cons (s_skip p4_8_18 hE (wn_some g4_8_17 rfl rfl) rfl ?_)
        clear hE a; intro a hE
        refine p_cons (s_skip p4_8_19 hE (wn_some g4_8_17 rfl rfl) rfl ?_)
        clear hE a; intro a hE
        refine p_cons (s_skip p4_8_20 hE (wn_some g4_8_17 rfl rfl) rfl ?_)
        clear hE a; intro a hE
        refine p_cons (s_skip p4_8_21 hE (wn_some g4_8_17 rfl rfl) rfl ?_)
        clear hE a; intro a hE
        refine p_cons (s_skip p4_8_22 hE (wn_some g4_8_17 rfl rfl) rfl ?_)
        clear hE a; intro a hE
        refine p_cons (s_still p4_8_23 hE (wn_some g4_8_14 rfl rfl) rfl (st_pick rfl rfl) ?_)
        clear hE a; intro a hE
        refine p_cons (s_still p4_8_24 hE (wn_some g4_8_14 rfl rfl) rfl (st_move rfl) ?_)
        clear hE a; intro a hE
        refine p_cons (s_still p4_8_25 hE (wn_some g4_8_24 rfl rfl) rfl (st_move rfl) ?_)
        clear hE a; intro a hE
        refine p_cons (s_still p4_8_26 hE (wn_some g4_8_24 rfl rfl) rfl (st_eql (b := true) rfl rfl (by decide)) ?_)
        clear hE a; intro a hE
        refine p_cons (s_still p4_8_27 hE (wn_some g4_8_24 rfl rfl) rfl (st_move rfl) ?_)
        clear hE a; intro a hE
        refine p_cons (s_still p4_8_28 hE (wn_some g4_8_27 rfl rfl) rfl (st_move rfl) ?_)
        clear hE a; intro a hE
        refine p_cons (s_call (xs := [Operand.tmp 94, Operand.const (Value.int IntKind.i64 1)]) (args := [Value.float .f64 9218868437227405312, Value.int .i64 1]) p4_8_29 hE (wn_some g4_8_27 rfl rfl) rfl rfl Try.func16 cl16 (isinf_ok  _) ?_)
        rintro e w8 ⟨rfl, hk⟩
        replace K_0 := K_0.then_ hk (fun _ h => h.elim)
        refine ⟨_, rfl, ?_⟩
        clear hE a; intro a hE
        refine p_cons (s_still p4_8_30 hE (wn_some g4_8_24 rfl rfl) rfl (st_pick rfl rfl) ?_)
        clear hE a; intro a hE
        refine p_cons (s_still p4_8_31 hE (wn_some g4_8_14 rfl rfl) rfl (st_pick rfl rfl) ?_)
        clear hE a; intro a hE
        refine p_cons (s_still p4_8_32 hE wn_none rfl (st_pick rfl rfl) ?_)
        clear hE a; intro a hE
        refine p_cons (s_still p4_8_33 hE wn_none rfl (st_assign rfl) ?_)
        clear hE a; intro a hE
        refine p_nil ?_
        refine x_norm ?_
        refine wp_ret ?_
        refine ret_one (v := Value.bool true) rfl hE (.tmp rfl .nil) ?_
        exact ⟨rfl, K_0.to (Nat.le_refl _) (fun _ h => h.elim)⟩
      ·
        obtain ⟨c, rfl⟩ : ∃ q : Nat, c = (q : Int) := ⟨c.toNat, by omega⟩
        obtain ⟨z, hz1, hz2, hz3, hz4, hz5, hz6⟩ := cost_fl (c := c) (by omega) (by omega)
        have hz7 := hz2.2
        refine c_reg R4_1_l ?_
        refine p_cons (s_still p4_1_0 hE wn_none rfl (st_move rfl) ?_)
        clear hE a; intro a hE
        refine p_cons (s_call (xs := [Operand.tmp 12]) (args := [Value.float .f64 x]) p4_1_1 hE wn_none rfl rfl Try.func10 cl10 (cost_any x (by omega) _ 0 rfl (by unfold costE; rw [if_pos hR_x]) _) ?_)
        rintro e w9 ⟨rfl, hk⟩
        replace K_0 := K_0.then_ hk (fun _ h => h.elim)
        refine ⟨_, rfl, ?_⟩
        clear hE a; intro a hE
        refine p_cons (s_still p4_1_2 hE wn_none rfl (st_move rfl) ?_)
        clear hE a; intro a hE
        refine p_cons (s_still p4_1_3 hE wn_none rfl (st_extract rfl rfl) ?_)
        clear hE a; intro a hE
        refine p_cons (s_still p4_1_4 hE wn_none rfl (st_extract rfl rfl) ?_)
        clear hE a; intro a hE
        refine p_cons (s_still p4_1_5 hE wn_none rfl (st_assign rfl) ?_)
        clear hE a; intro a hE
        refine p_cons (s_still p4_1_6 hE wn_none rfl (st_assign rfl) ?_)
        clear hE a; intro a hE
        refine p_nil ?_
        refine x_norm ?_
        refine c_reg R4_2_l ?_
        refine p_cons (s_still p4_2_0 hE wn_none rfl (st_move rfl) ?_)
        clear hE a; intro a hE
        refine p_cons (s_call (xs := [Operand.tmp 17]) (args := [Value.int .i64 (c : Int)]) p4_2_1 hE wn_none rfl rfl Try.func13 cl13 (Float_ok c z (by omega) (by omega) hz1 _) ?_)
        rintro e w10 ⟨rfl, hk⟩
        replace K_0 := K_0.then_ hk (fun _ h => h.elim)
        refine ⟨_, rfl, ?_⟩
        clear hE a; intro a hE
        refine p_cons (s_still p4_2_2 hE wn_none rfl (st_move rfl) ?_)
        clear hE a; intro a hE
        refine p_cons (s_still p4_2_3 hE wn_none rfl (st_extract rfl rfl) ?_)
        clear hE a; intro a hE
        refine p_cons (s_still p4_2_4 hE wn_none rfl (st_extract rfl rfl) ?_)
        clear hE a; intro a hE
        refine p_cons (s_still p4_2_5 hE wn_none rfl (st_assign rfl) ?_)
        clear hE a; intro a hE
        refine p_cons (s_still p4_2_6 hE wn_none rfl (st_assign rfl) ?_)
        clear hE a; intro a hE
        refine p_nil ?_
        refine x_norm ?_
        refine wp_seq ?_
        refine c_reg R4_3_l ?_
        refine p_cons (s_still p4_3_0 hE wn_none rfl (st_move rfl) ?_)
        clear hE a; intro a hE
        refine p_cons (s_call (xs := [Operand.tmp 21]) (args := [Value.float .f64 x]) p4_3_1 hE wn_none rfl rfl Try.func14 cl14 (rright_any x (by omega) true (decide_eq_true hR_x) _) ?_)
        rintro e w11 ⟨rfl, hk⟩
        replace K_0 := K_0.then_ hk (fun _ h => h.elim)
        refine ⟨_, rfl, ?_⟩
        clear hE a; intro a hE
        refine p_cons (s_still p4_3_2 hE wn_none rfl (st_move rfl) ?_)
        clear hE a; intro a hE
        refine p_cons (s_still p4_3_3 hE (wn_some g4_3_2 rfl rfl) rfl (st_move rfl) ?_)
        clear hE a; intro a hE
        refine p_cons (s_still p4_3_4 hE (wn_some g4_3_2 rfl rfl) rfl (st_neq (b := false) rfl rfl (by decide)) ?_)
        clear hE a; intro a hE
        refine p_cons (s_still p4_3_5 hE (wn_some g4_3_2 rfl rfl) rfl (st_move rfl) ?_)
        clear hE a; intro a hE
        refine p_cons (s_still p4_3_6 hE (wn_some g4_3_5 rfl rfl) rfl (st_move rfl) ?_)
        clear hE a; intro a hE
        refine p_cons (s_still p4_3_7 hE (wn_some g4_3_5 rfl rfl) rfl (st_move rfl) ?_)
        clear hE a; intro a hE
        refine p_cons (s_call (xs := [Operand.tmp 28]) (args := [Value.float .f64 x]) p4_3_8 hE (wn_some g4_3_5 rfl rfl) rfl rfl Try.func15 cl15 (rcost_any x hR_x _ rfl _) ?_)
        rintro e w12 ⟨rfl, hk⟩
        replace K_0 := K_0.then_ hk (fun _ h => h.elim)
        refine ⟨_, rfl, ?_⟩
        clear hE a; intro a hE
        refine p_cons (s_still p4_3_9 hE (wn_some g4_3_5 rfl rfl) rfl (st_neq (b := false) rfl rfl (by simp)) ?_)
        clear hE a; intro a hE
        refine p_cons (s_still p4_3_10 hE (wn_some g4_3_2 rfl rfl) rfl (st_pick rfl rfl) ?_)
        clear hE a; intro a hE
        refine p_cons (s_still p4_3_11 hE wn_none rfl (st_pick rfl rfl) ?_)
        clear hE a; intro a hE
        refine p_cons (s_still p4_3_12 hE wn_none rfl (st_move rfl) ?_)
        clear hE a; intro a hE
        refine p_cons (s_still p4_3_13 hE (wn_some g4_3_12 rfl rfl) rfl (st_move rfl) ?_)
        clear hE a; intro a hE
        refine p_cons (s_call (xs := [Operand.tmp 34]) (args := [Value.float .f64 x]) p4_3_14 hE (wn_some g4_3_12 rfl rfl) rfl rfl Try.func14 cl14 (rright_any x (by omega) true (decide_eq_true hR_x) _) ?_)
        rintro e w13 ⟨rfl, hk⟩
        replace K_0 := K_0.then_ hk (fun _ h => h.elim)
        refine ⟨_, rfl, ?_⟩
        clear hE a; intro a hE
        refine p_cons (s_still p4_3_15 hE (wn_some g4_3_12 rfl rfl) rfl (st_not rfl rfl) ?_)
        clear hE a; intro a hE
        refine p_cons (s_still p4_3_16 hE (wn_some g4_3_12 rfl rfl) rfl (st_move rfl) ?_)
        clear hE a; intro a hE
        refine p_cons (s_skip p4_3_17 hE (wn_some g4_3_16 rfl rfl) rfl ?_)
        clear hE a; intro a hE
        refine p_cons (s_skip p4_3_18 hE (wn_some g4_3_16 rfl rfl) rfl ?_)
        clear hE a; intro a hE
        refine p_cons (s_skip p4_3_19 hE (wn_some g4_3_16 rfl rfl) rfl ?_)
        clear hE a; intro a hE
        refine p_cons (s_skip p4_3_20 hE (wn_undef g4_3_19 rfl) rfl ?_)
        clear hE a; intro a hE
        refine p_cons (s_skip p4_3_21 hE (wn_undef g4_3_19 rfl) rfl ?_)
        clear hE a; intro a hE
        refine p_cons (s_skip p4_3_22 hE (wn_some g4_3_16 rfl rfl) rfl ?_)
        clear hE a; intro a hE
        refine p_cons (s_still p4_3_23 hE (wn_some g4_3_12 rfl rfl) rfl (st_pick rfl rfl) ?_)
        clear hE a; intro a hE
        refine p_cons (s_still p4_3_24 hE wn_none rfl (st_pick rfl rfl) ?_)
        clear hE a; intro a hE
        refine p_nil ?_
        refine x_norm ?_
        refine c_cond (t := false) hE rfl ?_
        refine wp_skip ?_
        refine x_norm ?_
        refine wp_seq ?_
        refine c_reg R4_5_l ?_
        refine p_cons (s_still p4_5_0 hE wn_none rfl (st_move rfl) ?_)
        clear hE a; intro a hE
        refine p_cons (s_still p4_5_1 hE wn_none rfl (st_lss (b := false) rfl rfl (decide_eq_false (by omega))) ?_)
        clear hE a; intro a hE
        refine p_cons (s_still p4_5_2 hE wn_none rfl (st_move rfl) ?_)
        clear hE a; intro a hE
        refine p_cons (s_still p4_5_3 hE (wn_some g4_5_2 rfl rfl) rfl (st_move rfl) ?_)
        clear hE a; intro a hE
        refine p_cons (s_still p4_5_4 hE (wn_some g4_5_2 rfl rfl) rfl (st_gtr (b := false) rfl rfl (decide_eq_false (by omega))) ?_)
        clear hE a; intro a hE
        refine p_cons (s_still p4_5_5 hE wn_none rfl (st_pick rfl rfl) ?_)
        clear hE a; intro a hE
        refine p_nil ?_
        refine x_norm ?_
        refine c_cond (t := false) hE rfl ?_
        refine wp_skip ?_
        refine x_norm ?_
        refine c_reg R4_7_l ?_
        refine p_cons (s_still p4_7_0 hE wn_none rfl (st_move rfl) ?_)
        clear hE a; intro a hE
        refine p_cons (s_call (xs := [Operand.tmp 62]) (args := [Value.float .f64 z]) p4_7_1 hE wn_none rfl rfl Try.func10 cl10 (cost_any z (by omega) (c : Int) 0 hz5 hz6 _) ?_)
        rintro e w14 ⟨rfl, hk⟩
        replace K_0 := K_0.then_ hk (fun _ h => h.elim)
        refine ⟨_, rfl, ?_⟩
        clear hE a; intro a hE
        refine p_cons (s_still p4_7_2 hE wn_none rfl (st_move rfl) ?_)
        clear hE a; intro a hE
        refine p_cons (s_still p4_7_3 hE wn_none rfl (st_extract rfl rfl) ?_)
        clear hE a; intro a hE
        refine p_cons (s_still p4_7_4 hE wn_none rfl (st_extract rfl rfl) ?_)
        clear hE a; intro a hE
        refine p_cons (s_still p4_7_5 hE wn_none rfl (st_assign rfl) ?_)
        clear hE a; intro a hE
        refine p_cons (s_still p4_7_6 hE wn_none rfl (st_assign rfl) ?_)
        clear hE a; intro a hE
        refine p_nil ?_
        refine x_norm ?_
        refine c_reg R4_8_l ?_
        refine p_cons (s_call (xs := []) (args := []) p4_8_0 hE wn_none rfl rfl Try.func12 cl12 (known_any  _) ?_)
        rintro e w15 ⟨rfl, hk⟩
        replace K_0 := K_0.then_ hk (fun _ h => h.elim)
        refine ⟨_, rfl, ?_⟩
        clear hE a; intro a hE
        refine p_cons (s_still p4_8_1 hE wn_none rfl (st_move rfl) ?_)
        clear hE a; intro a hE
        refine p_cons (s_still p4_8_2 hE (wn_some g4_8_1 rfl rfl) rfl (st_move rfl) ?_)
        clear hE a; intro a hE
        refine p_cons (s_still p4_8_3 hE (wn_some g4_8_1 rfl rfl) rfl (st_eql (b := true) rfl rfl (by decide)) ?_)
        clear hE a; intro a hE
        refine p_cons (s_still p4_8_4 hE wn_none rfl (st_pick rfl rfl) ?_)
        clear hE a; intro a hE
        refine p_cons (s_still p4_8_5 hE wn_none rfl (st_move rfl) ?_)
        clear hE a; intro a hE
        refine p_cons (s_still p4_8_6 hE (wn_some g4_8_5 rfl rfl) rfl (st_move rfl) ?_)
        clear hE a; intro a hE
        refine p_cons (s_still p4_8_7 hE (wn_some g4_8_5 rfl rfl) rfl (st_eql (b := true) rfl rfl (by decide)) ?_)
        clear hE a; intro a hE
        refine p_cons (s_still p4_8_8 hE wn_none rfl (st_pick rfl rfl) ?_)
        clear hE a; intro a hE
        refine p_cons (s_still p4_8_9 hE wn_none rfl (st_move rfl) ?_)
        clear hE a; intro a hE
        refine p_cons (s_still p4_8_10 hE (wn_some g4_8_9 rfl rfl) rfl (st_move rfl) ?_)
        clear hE a; intro a hE
        refine p_cons (s_still p4_8_11 hE (wn_some g4_8_9 rfl rfl) rfl (st_move rfl) ?_)
        clear hE a; intro a hE
        refine p_cons (s_still p4_8_12 hE (wn_some g4_8_9 rfl rfl) rfl (st_eql (b := true) rfl rfl (by simp)) ?_)
        clear hE a; intro a hE
        refine p_cons (s_still p4_8_13 hE wn_none rfl (st_pick rfl rfl) ?_)
        clear hE a; intro a hE
        refine p_cons (s_still p4_8_14 hE wn_none rfl (st_move rfl) ?_)
        clear hE a; intro a hE
        refine p_cons (s_still p4_8_15 hE (wn_some g4_8_14 rfl rfl) rfl (st_move rfl) ?_)
        clear hE a; intro a hE
        refine p_cons (s_still p4_8_16 hE (wn_some g4_8_14 rfl rfl) rfl (st_lss (b := true) rfl rfl (decide_eq_true (by omega))) ?_)
        clear hE a; intro a hE
        refine p_cons (s_still p4_8_17 hE (wn_some g4_8_14 rfl rfl) rfl (st_move rfl) ?_)
        clear hE a; intro a hE
        refine p_cons (s_still p4_8_18 hE (wn_some g4_8_17 rfl rfl) rfl (st_move rfl) ?_)
        clear hE a; intro a hE
        refine p_cons (s_still p4_8_19 hE (wn_some g4_8_17 rfl rfl) rfl (st_farith (z := (fl c)) rfl rfl rfl hz4) ?_)
        clear hE a; intro a hE
        refine p_cons (s_still p4_8_20 hE (wn_some g4_8_17 rfl rfl) rfl (st_move rfl) ?_)
        clear hE a; intro a hE
        refine p_cons (s_still p4_8_21 hE (wn_some g4_8_17 rfl rfl) rfl (st_i2f (z := (fl c)) (by kernel_rfl) Try.underlying22 rfl (i2f_nat _)) ?_)
        clear hE a; intro a hE
        refine p_cons (s_still p4_8_22 hE (wn_some g4_8_17 rfl rfl) rfl (st_feql (b := true) rfl rfl (eq_self (fl_right (by omega) (by omega)))) ?_)
        clear hE a; intro a hE
        refine p_cons (s_still p4_8_23 hE (wn_some g4_8_14 rfl rfl) rfl (st_pick rfl rfl) ?_)
        clear hE a; intro a hE
        refine p_cons (s_still p4_8_24 hE (wn_some g4_8_14 rfl rfl) rfl (st_move rfl) ?_)
        clear hE a; intro a hE
        refine p_cons (s_skip p4_8_25 hE (wn_some g4_8_24 rfl rfl) rfl ?_)
        clear hE a; intro a hE
        refine p_cons (s_skip p4_8_26 hE (wn_some g4_8_24 rfl rfl) rfl ?_)
        clear hE a; intro a hE
        refine p_cons (s_skip p4_8_27 hE (wn_some g4_8_24 rfl rfl) rfl ?_)
        clear hE a; intro a hE
        refine p_cons (s_skip p4_8_28 hE (wn_undef g4_8_27 rfl) rfl ?_)
        clear hE a; intro a hE
        refine p_cons (s_skip p4_8_29 hE (wn_undef g4_8_27 rfl) rfl ?_)
        clear hE a; intro a hE
        refine p_cons (s_skip p4_8_30 hE (wn_some g4_8_24 rfl rfl) rfl ?_)
        clear hE a; intro a hE
        refine p_cons (s_still p4_8_31 hE (wn_some g4_8_14 rfl rfl) rfl (st_pick rfl rfl) ?_)
        clear hE a; intro a hE
        refine p_cons (s_still p4_8_32 hE wn_none rfl (st_pick rfl rfl) ?_)
        clear hE a; intro a hE
        refine p_cons (s_still p4_8_33 hE wn_none rfl (st_assign rfl) ?_)
        clear hE a; intro a hE
        refine p_nil ?_
        refine x_norm ?_
        refine wp_ret ?_
        refine ret_one (v := Value.bool true) rfl hE (.tmp rfl .nil) ?_
        exact ⟨rfl, K_0.to (Nat.le_refl _) (fun _ h => h.elim)⟩
    ·
      refine c_reg R4_1_l ?_
      refine p_cons (s_still p4_1_0 hE wn_none rfl (st_move rfl) ?_)
      clear hE a; intro a hE
      refine p_cons (s_call (xs := [Operand.tmp 12]) (args := [Value.float .f64 x]) p4_1_1 hE wn_none rfl rfl Try.func10 cl10 (cost_any x (by omega) _ 0 rfl (by unfold costE; rw [if_pos hR_x]) _) ?_)
      rintro e w16 ⟨rfl, hk⟩
      replace K_0 := K_0.then_ hk (fun _ h => h.elim)
      refine ⟨_, rfl, ?_⟩
      clear hE a; intro a hE
      refine p_cons (s_still p4_1_2 hE wn_none rfl (st_move rfl) ?_)
      clear hE a; intro a hE
      refine p_cons (s_still p4_1_3 hE wn_none rfl (st_extract rfl rfl) ?_)
      clear hE a; intro a hE
      refine p_cons (s_still p4_1_4 hE wn_none rfl (st_extract rfl rfl) ?_)
      clear hE a; intro a hE
      refine p_cons (s_still p4_1_5 hE wn_none rfl (st_assign rfl) ?_)
      clear hE a; intro a hE
      refine p_cons (s_still p4_1_6 hE wn_none rfl (st_assign rfl) ?_)
      clear hE a; intro a hE
      refine p_nil ?_
      refine x_norm ?_
      refine c_reg R4_2_l ?_
      refine p_cons (s_still p4_2_0 hE wn_none rfl (st_move rfl) ?_)
      clear hE a; intro a hE
      refine p_cons (s_call (xs := [Operand.tmp 17]) (args := [Value.int .i64 c]) p4_2_1 hE wn_none rfl rfl Try.func13 cl13 (Float_no c hC1 _) ?_)
      rintro e w17 ⟨rfl, hk⟩
      replace K_0 := K_0.then_ hk (fun _ h => h.elim)
      refine ⟨_, rfl, ?_⟩
      clear hE a; intro a hE
      refine p_cons (s_still p4_2_2 hE wn_none rfl (st_move rfl) ?_)
      clear hE a; intro a hE
      refine p_cons (s_still p4_2_3 hE wn_none rfl (st_extract rfl rfl) ?_)
      clear hE a; intro a hE
      refine p_cons (s_still p4_2_4 hE wn_none rfl (st_extract rfl rfl) ?_)
      clear hE a; intro a hE
      refine p_cons (s_still p4_2_5 hE wn_none rfl (st_assign rfl) ?_)
      clear hE a; intro a hE
      refine p_cons (s_still p4_2_6 hE wn_none rfl (st_assign rfl) ?_)
      clear hE a; intro a hE
      refine p_nil ?_
      refine x_norm ?_
      refine wp_seq ?_
      refine c_reg R4_3_l ?_
      refine p_cons (s_still p4_3_0 hE wn_none rfl (st_move rfl) ?_)
      clear hE a; intro a hE
      refine p_cons (s_call (xs := [Operand.tmp 21]) (args := [Value.float .f64 x]) p4_3_1 hE wn_none rfl rfl Try.func14 cl14 (rright_any x (by omega) true (decide_eq_true hR_x) _) ?_)
      rintro e w18 ⟨rfl, hk⟩
      replace K_0 := K_0.then_ hk (fun _ h => h.elim)
      refine ⟨_, rfl, ?_⟩
      clear hE a; intro a hE
      refine p_cons (s_still p4_3_2 hE wn_none rfl (st_move rfl) ?_)
      clear hE a; intro a hE
      refine p_cons (s_still p4_3_3 hE (wn_some g4_3_2 rfl rfl) rfl (st_move rfl) ?_)
      clear hE a; intro a hE
      refine p_cons (s_still p4_3_4 hE (wn_some g4_3_2 rfl rfl) rfl (st_neq (b := false) rfl rfl (by decide)) ?_)
      clear hE a; intro a hE
      refine p_cons (s_still p4_3_5 hE (wn_some g4_3_2 rfl rfl) rfl (st_move rfl) ?_)
      clear hE a; intro a hE
      refine p_cons (s_still p4_3_6 hE (wn_some g4_3_5 rfl rfl) rfl (st_move rfl) ?_)
      clear hE a; intro a hE
      refine p_cons (s_still p4_3_7 hE (wn_some g4_3_5 rfl rfl) rfl (st_move rfl) ?_)
      clear hE a; intro a hE
      refine p_cons (s_call (xs := [Operand.tmp 28]) (args := [Value.float .f64 x]) p4_3_8 hE (wn_some g4_3_5 rfl rfl) rfl rfl Try.func15 cl15 (rcost_any x hR_x _ rfl _) ?_)
      rintro e w19 ⟨rfl, hk⟩
      replace K_0 := K_0.then_ hk (fun _ h => h.elim)
      refine ⟨_, rfl, ?_⟩
      clear hE a; intro a hE
      refine p_cons (s_still p4_3_9 hE (wn_some g4_3_5 rfl rfl) rfl (st_neq (b := false) rfl rfl (by simp)) ?_)
      clear hE a; intro a hE
      refine p_cons (s_still p4_3_10 hE (wn_some g4_3_2 rfl rfl) rfl (st_pick rfl rfl) ?_)
      clear hE a; intro a hE
      refine p_cons (s_still p4_3_11 hE wn_none rfl (st_pick rfl rfl) ?_)
      clear hE a; intro a hE
      refine p_cons (s_still p4_3_12 hE wn_none rfl (st_move rfl) ?_)
      clear hE a; intro a hE
      refine p_cons (s_still p4_3_13 hE (wn_some g4_3_12 rfl rfl) rfl (st_move rfl) ?_)
      clear hE a; intro a hE
      refine p_cons (s_call (xs := [Operand.tmp 34]) (args := [Value.float .f64 x]) p4_3_14 hE (wn_some g4_3_12 rfl rfl) rfl rfl Try.func14 cl14 (rright_any x (by omega) true (decide_eq_true hR_x) _) ?_)
      rintro e w20 ⟨rfl, hk⟩
      replace K_0 := K_0.then_ hk (fun _ h => h.elim)
      refine ⟨_, rfl, ?_⟩
      clear hE a; intro a hE
      refine p_cons (s_still p4_3_15 hE (wn_some g4_3_12 rfl rfl) rfl (st_not rfl rfl) ?_)
      clear hE a; intro a hE
      refine p_cons (s_still p4_3_16 hE (wn_some g4_3_12 rfl rfl) rfl (st_move rfl) ?_)
      clear hE a; intro a hE
      refine p_cons (s_skip p4_3_17 hE (wn_some g4_3_16 rfl rfl) rfl ?_)
      clear hE a; intro a hE
      refine p_cons (s_skip p4_3_18 hE (wn_some g4_3_16 rfl rfl) rfl ?_)
      clear hE a; intro a hE
      refine p_cons (s_skip p4_3_19 hE (wn_some g4_3_16 rfl rfl) rfl ?_)
      clear hE a; intro a hE
      refine p_cons (s_skip p4_3_20 hE (wn_undef g4_3_19 rfl) rfl ?_)
      clear hE a; intro a hE
      refine p_cons (s_skip p4_3_21 hE (wn_undef g4_3_19 rfl) rfl ?_)
      clear hE a; intro a hE
      refine p_cons (s_skip p4_3_22 hE (wn_some g4_3_16 rfl rfl) rfl ?_)
      clear hE a; intro a hE
      refine p_cons (s_still p4_3_23 hE (wn_some g4_3_12 rfl rfl) rfl (st_pick rfl rfl) ?_)
      clear hE a; intro a hE
      refine p_cons (s_still p4_3_24 hE wn_none rfl (st_pick rfl rfl) ?_)
      clear hE a; intro a hE
      refine p_nil ?_
      refine x_norm ?_
      refine c_cond (t := false) hE rfl ?_
      refine wp_skip ?_
      refine x_norm ?_
      refine wp_seq ?_
      rcases Decidable.em (c < 128) with hlo | hlo
      ·
        refine c_reg R4_5_l ?_
        refine p_cons (s_still p4_5_0 hE wn_none rfl (st_move rfl) ?_)
        clear hE a; intro a hE
        refine p_cons (s_still p4_5_1 hE wn_none rfl (st_lss (b := true) rfl rfl (decide_eq_true hlo)) ?_)
        clear hE a; intro a hE
        refine p_cons (s_still p4_5_2 hE wn_none rfl (st_move rfl) ?_)
        clear hE a; intro a hE
        refine p_cons (s_skip p4_5_3 hE (wn_some g4_5_2 rfl rfl) rfl ?_)
        clear hE a; intro a hE
        refine p_cons (s_skip p4_5_4 hE (wn_some g4_5_2 rfl rfl) rfl ?_)
        clear hE a; intro a hE
        refine p_cons (s_still p4_5_5 hE wn_none rfl (st_pick rfl rfl) ?_)
        clear hE a; intro a hE
        refine p_nil ?_
        refine x_norm ?_
        refine c_cond (t := true) hE rfl ?_
        refine c_reg R4_6_l ?_
        refine p_cons (s_call (xs := []) (args := []) p4_6_0 hE wn_none rfl rfl Try.func12 cl12 (known_any  _) ?_)
        rintro e w21 ⟨rfl, hk⟩
        replace K_0 := K_0.then_ hk (fun _ h => h.elim)
        refine ⟨_, rfl, ?_⟩
        clear hE a; intro a hE
        refine p_cons (s_still p4_6_1 hE wn_none rfl (st_move rfl) ?_)
        clear hE a; intro a hE
        refine p_cons (s_still p4_6_2 hE (wn_some g4_6_1 rfl rfl) rfl (st_move rfl) ?_)
        clear hE a; intro a hE
        refine p_cons (s_still p4_6_3 hE (wn_some g4_6_1 rfl rfl) rfl (st_eql (b := true) rfl rfl (by decide)) ?_)
        clear hE a; intro a hE
        refine p_cons (s_still p4_6_4 hE wn_none rfl (st_pick rfl rfl) ?_)
        clear hE a; intro a hE
        refine p_cons (s_still p4_6_5 hE wn_none rfl (st_move rfl) ?_)
        clear hE a; intro a hE
        refine p_cons (s_still p4_6_6 hE (wn_some g4_6_5 rfl rfl) rfl (st_move rfl) ?_)
        clear hE a; intro a hE
        refine p_cons (s_still p4_6_7 hE (wn_some g4_6_5 rfl rfl) rfl (st_feql (b := true) rfl rfl (by decide +kernel)) ?_)
        clear hE a; intro a hE
        refine p_cons (s_still p4_6_8 hE wn_none rfl (st_pick rfl rfl) ?_)
        clear hE a; intro a hE
        refine p_cons (s_still p4_6_9 hE wn_none rfl (st_assign rfl) ?_)
        clear hE a; intro a hE
        refine p_nil ?_
        refine x_norm ?_
        refine wp_ret ?_
        refine x_ret ?_
        refine ret_one (v := Value.bool true) rfl hE (.tmp rfl .nil) ?_
        exact ⟨rfl, K_0.to (Nat.le_refl _) (fun _ h => h.elim)⟩
      ·
        refine c_reg R4_5_l ?_
        refine p_cons (s_still p4_5_0 hE wn_none rfl (st_move rfl) ?_)
        clear hE a; intro a hE
        refine p_cons (s_still p4_5_1 hE wn_none rfl (st_lss (b := false) rfl rfl (decide_eq_false (by omega))) ?_)
        clear hE a; intro a hE
        refine p_cons (s_still p4_5_2 hE wn_none rfl (st_move rfl) ?_)
        clear hE a; intro a hE
        refine p_cons (s_still p4_5_3 hE (wn_some g4_5_2 rfl rfl) rfl (st_move rfl) ?_)
        clear hE a; intro a hE
        refine p_cons (s_still p4_5_4 hE (wn_some g4_5_2 rfl rfl) rfl (st_gtr (b := true) rfl rfl (decide_eq_true (by omega))) ?_)
        clear hE a; intro a hE
        refine p_cons (s_still p4_5_5 hE wn_none rfl (st_pick rfl rfl) ?_)
        clear hE a; intro a hE
        refine p_nil ?_
        refine x_norm ?_
        refine c_cond (t := true) hE rfl ?_
        refine c_reg R4_6_l ?_
        refine p_cons (s_call (xs := []) (args := []) p4_6_0 hE wn_none rfl rfl Try.func12 cl12 (known_any  _) ?_)
        rintro e w22 ⟨rfl, hk⟩
        replace K_0 := K_0.then_ hk (fun _ h => h.elim)
        refine ⟨_, rfl, ?_⟩
        clear hE a; intro a hE
        refine p_cons (s_still p4_6_1 hE wn_none rfl (st_move rfl) ?_)
        clear hE a; intro a hE
        refine p_cons (s_still p4_6_2 hE (wn_some g4_6_1 rfl rfl) rfl (st_move rfl) ?_)
        clear hE a; intro a hE
        refine p_cons (s_still p4_6_3 hE (wn_some g4_6_1 rfl rfl) rfl (st_eql (b := true) rfl rfl (by decide)) ?_)
        clear hE a; intro a hE
        refine p_cons (s_still p4_6_4 hE wn_none rfl (st_pick rfl rfl) ?_)
        clear hE a; intro a hE
        refine p_cons (s_still p4_6_5 hE wn_none rfl (st_move rfl) ?_)
        clear hE a; intro a hE
        refine p_cons (s_still p4_6_6 hE (wn_some g4_6_5 rfl rfl) rfl (st_move rfl) ?_)
        clear hE a; intro a hE
        refine p_cons (s_still p4_6_7 hE (wn_some g4_6_5 rfl rfl) rfl (st_feql (b := true) rfl rfl (by decide +kernel)) ?_)
        clear hE a; intro a hE
        refine p_cons (s_still p4_6_8 hE wn_none rfl (st_pick rfl rfl) ?_)
        clear hE a; intro a hE
        refine p_cons (s_still p4_6_9 hE wn_none rfl (st_assign rfl) ?_)
        clear hE a; intro a hE
        refine p_nil ?_
        refine x_norm ?_
        refine wp_ret ?_
        refine x_ret ?_
        refine ret_one (v := Value.bool true) rfl hE (.tmp rfl .nil) ?_
        exact ⟨rfl, K_0.to (Nat.le_refl _) (fun _ h => h.elim)⟩
  ·
    rcases Decidable.em (128 ≤ c ∧ c ≤ 65535) with hC1 | hC1
    ·
      rcases Decidable.em (c = 65535) with hC2 | hC2
      ·
        subst hC2
        refine c_reg R4_1_l ?_
        refine p_cons (s_still p4_1_0 hE wn_none rfl (st_move rfl) ?_)
        clear hE a; intro a hE
        refine p_cons (s_call (xs := [Operand.tmp 12]) (args := [Value.float .f64 x]) p4_1_1 hE wn_none rfl rfl Try.func10 cl10 (cost_any x (by omega) 0 1 (by unfold costV; rw [if_neg hR_x]) (by unfold costE; rw [if_neg hR_x]) _) ?_)
        rintro e w23 ⟨rfl, hk⟩
        replace K_0 := K_0.then_ hk (fun _ h => h.elim)
        refine ⟨_, rfl, ?_⟩
        clear hE a; intro a hE
        refine p_cons (s_still p4_1_2 hE wn_none rfl (st_move rfl) ?_)
        clear hE a; intro a hE
        refine p_cons (s_still p4_1_3 hE wn_none rfl (st_extract rfl rfl) ?_)
        clear hE a; intro a hE
        refine p_cons (s_still p4_1_4 hE wn_none rfl (st_extract rfl rfl) ?_)
        clear hE a; intro a hE
        refine p_cons (s_still p4_1_5 hE wn_none rfl (st_assign rfl) ?_)
        clear hE a; intro a hE
        refine p_cons (s_still p4_1_6 hE wn_none rfl (st_assign rfl) ?_)
        clear hE a; intro a hE
        refine p_nil ?_
        refine x_norm ?_
        refine c_reg R4_2_l ?_
        refine p_cons (s_still p4_2_0 hE wn_none rfl (st_move rfl) ?_)
        clear hE a; intro a hE
        refine p_cons (s_call (xs := [Operand.tmp 17]) (args := [Value.int .i64 65535]) p4_2_1 hE wn_none rfl rfl Try.func13 cl13 (Float_inf  _) ?_)
        rintro e w24 ⟨rfl, hk⟩
        replace K_0 := K_0.then_ hk (fun _ h => h.elim)
        refine ⟨_, rfl, ?_⟩
        clear hE a; intro a hE
        refine p_cons (s_still p4_2_2 hE wn_none rfl (st_move rfl) ?_)
        clear hE a; intro a hE
        refine p_cons (s_still p4_2_3 hE wn_none rfl (st_extract rfl rfl) ?_)
        clear hE a; intro a hE
        refine p_cons (s_still p4_2_4 hE wn_none rfl (st_extract rfl rfl) ?_)
        clear hE a; intro a hE
        refine p_cons (s_still p4_2_5 hE wn_none rfl (st_assign rfl) ?_)
        clear hE a; intro a hE
        refine p_cons (s_still p4_2_6 hE wn_none rfl (st_assign rfl) ?_)
        clear hE a; intro a hE
        refine p_nil ?_
        refine x_norm ?_
        refine wp_seq ?_
        refine c_reg R4_3_l ?_
        refine p_cons (s_still p4_3_0 hE wn_none rfl (st_move rfl) ?_)
        clear hE a; intro a hE
        refine p_cons (s_call (xs := [Operand.tmp 21]) (args := [Value.float .f64 x]) p4_3_1 hE wn_none rfl rfl Try.func14 cl14 (rright_any x (by omega) false (decide_eq_false hR_x) _) ?_)
        rintro e w25 ⟨rfl, hk⟩
        replace K_0 := K_0.then_ hk (fun _ h => h.elim)
        refine ⟨_, rfl, ?_⟩
        clear hE a; intro a hE
        refine p_cons (s_still p4_3_2 hE wn_none rfl (st_move rfl) ?_)
        clear hE a; intro a hE
        refine p_cons (s_skip p4_3_3 hE (wn_some g4_3_2 rfl rfl) rfl ?_)
        clear hE a; intro a hE
        refine p_cons (s_skip p4_3_4 hE (wn_some g4_3_2 rfl rfl) rfl ?_)
        clear hE a; intro a hE
        refine p_cons (s_skip p4_3_5 hE (wn_some g4_3_2 rfl rfl) rfl ?_)
        clear hE a; intro a hE
        refine p_cons (s_skip p4_3_6 hE (wn_undef g4_3_5 rfl) rfl ?_)
        clear hE a; intro a hE
        refine p_cons (s_skip p4_3_7 hE (wn_undef g4_3_5 rfl) rfl ?_)
        clear hE a; intro a hE
        refine p_cons (s_skip p4_3_8 hE (wn_undef g4_3_5 rfl) rfl ?_)
        clear hE a; intro a hE
        refine p_cons (s_skip p4_3_9 hE (wn_undef g4_3_5 rfl) rfl ?_)
        clear hE a; intro a hE
        refine p_cons (s_skip p4_3_10 hE (wn_some g4_3_2 rfl rfl) rfl ?_)
        clear hE a; intro a hE
        refine p_cons (s_still p4_3_11 hE wn_none rfl (st_pick rfl rfl) ?_)
        clear hE a; intro a hE
        refine p_cons (s_still p4_3_12 hE wn_none rfl (st_move rfl) ?_)
        clear hE a; intro a hE
        refine p_cons (s_still p4_3_13 hE (wn_some g4_3_12 rfl rfl) rfl (st_move rfl) ?_)
        clear hE a; intro a hE
        refine p_cons (s_call (xs := [Operand.tmp 34]) (args := [Value.float .f64 x]) p4_3_14 hE (wn_some g4_3_12 rfl rfl) rfl rfl Try.func14 cl14 (rright_any x (by omega) false (decide_eq_false hR_x) _) ?_)
        rintro e w26 ⟨rfl, hk⟩
        replace K_0 := K_0.then_ hk (fun _ h => h.elim)
        refine ⟨_, rfl, ?_⟩
        clear hE a; intro a hE
        refine p_cons (s_still p4_3_15 hE (wn_some g4_3_12 rfl rfl) rfl (st_not rfl rfl) ?_)
        clear hE a; intro a hE
        refine p_cons (s_still p4_3_16 hE (wn_some g4_3_12 rfl rfl) rfl (st_move rfl) ?_)
        clear hE a; intro a hE
        refine p_cons (s_still p4_3_17 hE (wn_some g4_3_16 rfl rfl) rfl (st_move rfl) ?_)
        clear hE a; intro a hE
        refine p_cons (s_still p4_3_18 hE (wn_some g4_3_16 rfl rfl) rfl (st_neq (b := false) rfl rfl (by decide)) ?_)
        clear hE a; intro a hE
        refine p_cons (s_still p4_3_19 hE (wn_some g4_3_16 rfl rfl) rfl (st_move rfl) ?_)
        clear hE a; intro a hE
        refine p_cons (s_still p4_3_20 hE (wn_some g4_3_19 rfl rfl) rfl (st_move rfl) ?_)
        clear hE a; intro a hE
        refine p_cons (s_still p4_3_21 hE (wn_some g4_3_19 rfl rfl) rfl (st_neq (b := false) rfl rfl (by decide)) ?_)
        clear hE a; intro a hE
        refine p_cons (s_still p4_3_22 hE (wn_some g4_3_16 rfl rfl) rfl (st_pick rfl rfl) ?_)
        clear hE a; intro a hE
        refine p_cons (s_still p4_3_23 hE (wn_some g4_3_12 rfl rfl) rfl (st_pick rfl rfl) ?_)
        clear hE a; intro a hE
        refine p_cons (s_still p4_3_24 hE wn_none rfl (st_pick rfl rfl) ?_)
        clear hE a; intro a hE
        refine p_nil ?_
        refine x_norm ?_
        refine c_cond (t := false) hE rfl ?_
        refine wp_skip ?_
        refine x_norm ?_
        refine wp_seq ?_
        refine c_reg R4_5_l ?_
        refine p_cons (s_still p4_5_0 hE wn_none rfl (st_move rfl) ?_)
        clear hE a; intro a hE
        refine p_cons (s_still p4_5_1 hE wn_none rfl (st_lss (b := false) rfl rfl (by decide)) ?_)
        clear hE a; intro a hE
        refine p_cons (s_still p4_5_2 hE wn_none rfl (st_move rfl) ?_)
        clear hE a; intro a hE
        refine p_cons (s_still p4_5_3 hE (wn_some g4_5_2 rfl rfl) rfl (st_move rfl) ?_)
        clear hE a; intro a hE
        refine p_cons (s_still p4_5_4 hE (wn_some g4_5_2 rfl rfl) rfl (st_gtr (b := false) rfl rfl (by decide)) ?_)
        clear hE a; intro a hE
        refine p_cons (s_still p4_5_5 hE wn_none rfl (st_pick rfl rfl) ?_)
        clear hE a; intro a hE
        refine p_nil ?_
        refine x_norm ?_
        refine c_cond (t := false) hE rfl ?_
        refine wp_skip ?_
        refine x_norm ?_
        refine c_reg R4_7_l ?_
        refine p_cons (s_still p4_7_0 hE wn_none rfl (st_move rfl) ?_)
        clear hE a; intro a hE
        refine p_cons (s_call (xs := [Operand.tmp 62]) (args := [Value.float .f64 9218868437227405312]) p4_7_1 hE wn_none rfl rfl Try.func10 cl10 (cost_any 9218868437227405312 (by decide) 65535 0 (by decide +kernel) (by decide +kernel) _) ?_)
        rintro e w27 ⟨rfl, hk⟩
        replace K_0 := K_0.then_ hk (fun _ h => h.elim)
        refine ⟨_, rfl, ?_⟩
        clear hE a; intro a hE
        refine p_cons (s_still p4_7_2 hE wn_none rfl (st_move rfl) ?_)
        clear hE a; intro a hE
        refine p_cons (s_still p4_7_3 hE wn_none rfl (st_extract rfl rfl) ?_)
        clear hE a; intro a hE
        refine p_cons (s_still p4_7_4 hE wn_none rfl (st_extract rfl rfl) ?_)
        clear hE a; intro a hE
        refine p_cons (s_still p4_7_5 hE wn_none rfl (st_assign rfl) ?_)
        clear hE a; intro a hE
        refine p_cons (s_still p4_7_6 hE wn_none rfl (st_assign rfl) ?_)
        clear hE a; intro a hE
        refine p_nil ?_
        refine x_norm ?_
        refine c_reg R4_8_l ?_
        refine p_cons (s_call (xs := []) (args := []) p4_8_0 hE wn_none rfl rfl Try.func12 cl12 (known_any  _) ?_)
        rintro e w28 ⟨rfl, hk⟩
        replace K_0 := K_0.then_ hk (fun _ h => h.elim)
        refine ⟨_, rfl, ?_⟩
        clear hE a; intro a hE
        refine p_cons (s_still p4_8_1 hE wn_none rfl (st_move rfl) ?_)
        clear hE a; intro a hE
        refine p_cons (s_still p4_8_2 hE (wn_some g4_8_1 rfl rfl) rfl (st_move rfl) ?_)
        clear hE a; intro a hE
        refine p_cons (s_still p4_8_3 hE (wn_some g4_8_1 rfl rfl) rfl (st_eql (b := true) rfl rfl (by decide)) ?_)
        clear hE a; intro a hE
        refine p_cons (s_still p4_8_4 hE wn_none rfl (st_pick rfl rfl) ?_)
        clear hE a; intro a hE
        refine p_cons (s_still p4_8_5 hE wn_none rfl (st_move rfl) ?_)
        clear hE a; intro a hE
        refine p_cons (s_still p4_8_6 hE (wn_some g4_8_5 rfl rfl) rfl (st_move rfl) ?_)
        clear hE a; intro a hE
        refine p_cons (s_still p4_8_7 hE (wn_some g4_8_5 rfl rfl) rfl (st_eql (b := true) rfl rfl (by decide)) ?_)
        clear hE a; intro a hE
        refine p_cons (s_still p4_8_8 hE wn_none rfl (st_pick rfl rfl) ?_)
        clear hE a; intro a hE
        refine p_cons (s_still p4_8_9 hE wn_none rfl (st_move rfl) ?_)
        clear hE a; intro a hE
        refine p_cons (s_still p4_8_10 hE (wn_some g4_8_9 rfl rfl) rfl (st_move rfl) ?_)
        clear hE a; intro a hE
        refine p_cons (s_still p4_8_11 hE (wn_some g4_8_9 rfl rfl) rfl (st_move rfl) ?_)
        clear hE a; intro a hE
        refine p_cons (s_still p4_8_12 hE (wn_some g4_8_9 rfl rfl) rfl (st_eql (b := true) rfl rfl (by decide)) ?_)
        clear hE a; intro a hE
        refine p_cons (s_still p4_8_13 hE wn_none rfl (st_pick rfl rfl) ?_)
        clear hE a; intro a hE
        refine p_cons (s_still p4_8_14 hE wn_none rfl (st_move rfl) ?_)
        clear hE a; intro a hE
        refine p_cons (s_still p4_8_15 hE (wn_some g4_8_14 rfl rfl) rfl (st_move rfl) ?_)
        clear hE a; intro a hE
        refine p_cons (s_still p4_8_16 hE (wn_some g4_8_14 rfl rfl) rfl (st_lss (b := false) rfl rfl (by decide)) ?_)
        clear hE a; intro a hE
        refine p_cons (s_still p4_8_17 hE (wn_some g4_8_14 rfl rfl) rfl (st_move rfl) ?_)
        clear hE a; intro a hE
        refine p_cons (s_skip p4_8_18 hE (wn_some g4_8_17 rfl rfl) rfl ?_)
        clear hE a; intro a hE
        refine p_cons (s_skip p4_8_19 hE (wn_some g4_8_17 rfl rfl) rfl ?_)
        clear hE a; intro a hE
        refine p_cons (s_skip p4_8_20 hE (wn_some g4_8_17 rfl rfl) rfl ?_)
        clear hE a; intro a hE
        refine p_cons (s_skip p4_8_21 hE (wn_some g4_8_17 rfl rfl) rfl ?_)
        clear hE a; intro a hE
        refine p_cons (s_skip p4_8_22 hE (wn_some g4_8_17 rfl rfl) rfl ?_)
        clear hE a; intro a hE
        refine p_cons (s_still p4_8_23 hE (wn_some g4_8_14 rfl rfl) rfl (st_pick rfl rfl) ?_)
        clear hE a; intro a hE
        refine p_cons (s_still p4_8_24 hE (wn_some g4_8_14 rfl rfl) rfl (st_move rfl) ?_)
        clear hE a; intro a hE
        refine p_cons (s_still p4_8_25 hE (wn_some g4_8_24 rfl rfl) rfl (st_move rfl) ?_)
        clear hE a; intro a hE
        refine p_cons (s_still p4_8_26 hE (wn_some g4_8_24 rfl rfl) rfl (st_eql (b := true) rfl rfl (by decide)) ?_)
        clear hE a; intro a hE
        refine p_cons (s_still p4_8_27 hE (wn_some g4_8_24 rfl rfl) rfl (st_move rfl) ?_)
        clear hE a; intro a hE
        refine p_cons (s_still p4_8_28 hE (wn_some g4_8_27 rfl rfl) rfl (st_move rfl) ?_)
        clear hE a; intro a hE
        refine p_cons (s_call (xs := [Operand.tmp 94, Operand.const (Value.int IntKind.i64 1)]) (args := [Value.float .f64 9218868437227405312, Value.int .i64 1]) p4_8_29 hE (wn_some g4_8_27 rfl rfl) rfl rfl Try.func16 cl16 (isinf_ok  _) ?_)
        rintro e w29 ⟨rfl, hk⟩
        replace K_0 := K_0.then_ hk (fun _ h => h.elim)
        refine ⟨_, rfl, ?_⟩
        clear hE a; intro a hE
        refine p_cons (s_still p4_8_30 hE (wn_some g4_8_24 rfl rfl) rfl (st_pick rfl rfl) ?_)
        clear hE a; intro a hE
        refine p_cons (s_still p4_8_31 hE (wn_some g4_8_14 rfl rfl) rfl (st_pick rfl rfl) ?_)
        clear hE a; intro a hE
        refine p_cons (s_still p4_8_32 hE wn_none rfl (st_pick rfl rfl) ?_)
        clear hE a; intro a hE
        refine p_cons (s_still p4_8_33 hE wn_none rfl (st_assign rfl) ?_)
        clear hE a; intro a hE
        refine p_nil ?_
        refine x_norm ?_
        refine wp_ret ?_
        refine ret_one (v := Value.bool true) rfl hE (.tmp rfl .nil) ?_
        exact ⟨rfl, K_0.to (Nat.le_refl _) (fun _ h => h.elim)⟩
      ·
        obtain ⟨c, rfl⟩ : ∃ q : Nat, c = (q : Int) := ⟨c.toNat, by omega⟩
        obtain ⟨z, hz1, hz2, hz3, hz4, hz5, hz6⟩ := cost_fl (c := c) (by omega) (by omega)
        have hz7 := hz2.2
        refine c_reg R4_1_l ?_
        refine p_cons (s_still p4_1_0 hE wn_none rfl (st_move rfl) ?_)
        clear hE a; intro a hE
        refine p_cons (s_call (xs := [Operand.tmp 12]) (args := [Value.float .f64 x]) p4_1_1 hE wn_none rfl rfl Try.func10 cl10 (cost_any x (by omega) 0 1 (by unfold costV; rw [if_neg hR_x]) (by unfold costE; rw [if_neg hR_x]) _) ?_)
        rintro e w30 ⟨rfl, hk⟩
        replace K_0 := K_0.then_ hk (fun _ h => h.elim)
        refine ⟨_, rfl, ?_⟩
        clear hE a; intro a hE
        refine p_cons (s_still p4_1_2 hE wn_none rfl (st_move rfl) ?_)
        clear hE a; intro a hE
        refine p_cons (s_still p4_1_3 hE wn_none rfl (st_extract rfl rfl) ?_)
        clear hE a; intro a hE
        refine p_cons (s_still p4_1_4 hE wn_none rfl (st_extract rfl rfl) ?_)
        clear hE a; intro a hE
        refine p_cons (s_still p4_1_5 hE wn_none rfl (st_assign rfl) ?_)
        clear hE a; intro a hE
        refine p_cons (s_still p4_1_6 hE wn_none rfl (st_assign rfl) ?_)
        clear hE a; intro a hE
        refine p_nil ?_
        refine x_norm ?_
        refine c_reg R4_2_l ?_
        refine p_cons (s_still p4_2_0 hE wn_none rfl (st_move rfl) ?_)
        clear hE a; intro a hE
        refine p_cons (s_call (xs := [Operand.tmp 17]) (args := [Value.int .i64 (c : Int)]) p4_2_1 hE wn_none rfl rfl Try.func13 cl13 (Float_ok c z (by omega) (by omega) hz1 _) ?_)
        rintro e w31 ⟨rfl, hk⟩
        replace K_0 := K_0.then_ hk (fun _ h => h.elim)
        refine ⟨_, rfl, ?_⟩
        clear hE a; intro a hE
        refine p_cons (s_still p4_2_2 hE wn_none rfl (st_move rfl) ?_)
        clear hE a; intro a hE
        refine p_cons (s_still p4_2_3 hE wn_none rfl (st_extract rfl rfl) ?_)
        clear hE a; intro a hE
        refine p_cons (s_still p4_2_4 hE wn_none rfl (st_extract rfl rfl) ?_)
        clear hE a; intro a hE
        refine p_cons (s_still p4_2_5 hE wn_none rfl (st_assign rfl) ?_)
        clear hE a; intro a hE
        refine p_cons (s_still p4_2_6 hE wn_none rfl (st_assign rfl) ?_)
        clear hE a; intro a hE
        refine p_nil ?_
        refine x_norm ?_
        refine wp_seq ?_
        refine c_reg R4_3_l ?_
        refine p_cons (s_still p4_3_0 hE wn_none rfl (st_move rfl) ?_)
        clear hE a; intro a hE
        refine p_cons (s_call (xs := [Operand.tmp 21]) (args := [Value.float .f64 x]) p4_3_1 hE wn_none rfl rfl Try.func14 cl14 (rright_any x (by omega) false (decide_eq_false hR_x) _) ?_)
        rintro e w32 ⟨rfl, hk⟩
        replace K_0 := K_0.then_ hk (fun _ h => h.elim)
        refine ⟨_, rfl, ?_⟩
        clear hE a; intro a hE
        refine p_cons (s_still p4_3_2 hE wn_none rfl (st_move rfl) ?_)
        clear hE a; intro a hE
        refine p_cons (s_skip p4_3_3 hE (wn_some g4_3_2 rfl rfl) rfl ?_)
        clear hE a; intro a hE
        refine p_cons (s_skip p4_3_4 hE (wn_some g4_3_2 rfl rfl) rfl ?_)
        clear hE a; intro a hE
        refine p_cons (s_skip p4_3_5 hE (wn_some g4_3_2 rfl rfl) rfl ?_)
        clear hE a; intro a hE
        refine p_cons (s_skip p4_3_6 hE (wn_undef g4_3_5 rfl) rfl ?_)
        clear hE a; intro a hE
        refine p_cons (s_skip p4_3_7 hE (wn_undef g4_3_5 rfl) rfl ?_)
        clear hE a; intro a hE
        refine p_cons (s_skip p4_3_8 hE (wn_undef g4_3_5 rfl) rfl ?_)
        clear hE a; intro a hE
        refine p_cons (s_skip p4_3_9 hE (wn_undef g4_3_5 rfl) rfl ?_)
        clear hE a; intro a hE
        refine p_cons (s_skip p4_3_10 hE (wn_some g4_3_2 rfl rfl) rfl ?_)
        clear hE a; intro a hE
        refine p_cons (s_still p4_3_11 hE wn_none rfl (st_pick rfl rfl) ?_)
        clear hE a; intro a hE
        refine p_cons (s_still p4_3_12 hE wn_none rfl (st_move rfl) ?_)
        clear hE a; intro a hE
        refine p_cons (s_still p4_3_13 hE (wn_some g4_3_12 rfl rfl) rfl (st_move rfl) ?_)
        clear hE a; intro a hE
        refine p_cons (s_call (xs := [Operand.tmp 34]) (args := [Value.float .f64 x]) p4_3_14 hE (wn_some g4_3_12 rfl rfl) rfl rfl Try.func14 cl14 (rright_any x (by omega) false (decide_eq_false hR_x) _) ?_)
        rintro e w33 ⟨rfl, hk⟩
        replace K_0 := K_0.then_ hk (fun _ h => h.elim)
        refine ⟨_, rfl, ?_⟩
        clear hE a; intro a hE
        refine p_cons (s_still p4_3_15 hE (wn_some g4_3_12 rfl rfl) rfl (st_not rfl rfl) ?_)
        clear hE a; intro a hE
        refine p_cons (s_still p4_3_16 hE (wn_some g4_3_12 rfl rfl) rfl (st_move rfl) ?_)
        clear hE a; intro a hE
        refine p_cons (s_still p4_3_17 hE (wn_some g4_3_16 rfl rfl) rfl (st_move rfl) ?_)
        clear hE a; intro a hE
        refine p_cons (s_still p4_3_18 hE (wn_some g4_3_16 rfl rfl) rfl (st_neq (b := false) rfl rfl (by decide)) ?_)
        clear hE a; intro a hE
        refine p_cons (s_still p4_3_19 hE (wn_some g4_3_16 rfl rfl) rfl (st_move rfl) ?_)
        clear hE a; intro a hE
        refine p_cons (s_still p4_3_20 hE (wn_some g4_3_19 rfl rfl) rfl (st_move rfl) ?_)
        clear hE a; intro a hE
        refine p_cons (s_still p4_3_21 hE (wn_some g4_3_19 rfl rfl) rfl (st_neq (b := false) rfl rfl (by decide)) ?_)
        clear hE a; intro a hE
        refine p_cons (s_still p4_3_22 hE (wn_some g4_3_16 rfl rfl) rfl (st_pick rfl rfl) ?_)
        clear hE a; intro a hE
        refine p_cons (s_still p4_3_23 hE (wn_some g4_3_12 rfl rfl) rfl (st_pick rfl rfl) ?_)
        clear hE a; intro a hE
        refine p_cons (s_still p4_3_24 hE wn_none rfl (st_pick rfl rfl) ?_)
        clear hE a; intro a hE
        refine p_nil ?_
        refine x_norm ?_
        refine c_cond (t := false) hE rfl ?_
        refine wp_skip ?_
        refine x_norm ?_
        refine wp_seq ?_
        refine c_reg R4_5_l ?_
        refine p_cons (s_still p4_5_0 hE wn_none rfl (st_move rfl) ?_)
        clear hE a; intro a hE
        refine p_cons (s_still p4_5_1 hE wn_none rfl (st_lss (b := false) rfl rfl (decide_eq_false (by omega))) ?_)
        clear hE a; intro a hE
        refine p_cons (s_still p4_5_2 hE wn_none rfl (st_move rfl) ?_)
        clear hE a; intro a hE
        refine p_cons (s_still p4_5_3 hE (wn_some g4_5_2 rfl rfl) rfl (st_move rfl) ?_)
        clear hE a; intro a hE
        refine p_cons (s_still p4_5_4 hE (wn_some g4_5_2 rfl rfl) rfl (st_gtr (b := false) rfl rfl (decide_eq_false (by omega))) ?_)
        clear hE a; intro a hE
        refine p_cons (s_still p4_5_5 hE wn_none rfl (st_pick rfl rfl) ?_)
        clear hE a; intro a hE
        refine p_nil ?_
        refine x_norm ?_
        refine c_cond (t := false) hE rfl ?_
        refine wp_skip ?_
        refine x_norm ?_
        refine c_reg R4_7_l ?_
        refine p_cons (s_still p4_7_0 hE wn_none rfl (st_move rfl) ?_)
        clear hE a; intro a hE
        refine p_cons (s_call (xs := [Operand.tmp 62]) (args := [Value.float .f64 z]) p4_7_1 hE wn_none rfl rfl Try.func10 cl10 (cost_any z (by omega) (c : Int) 0 hz5 hz6 _) ?_)
        rintro e w34 ⟨rfl, hk⟩
        replace K_0 := K_0.then_ hk (fun _ h => h.elim)
        refine ⟨_, rfl, ?_⟩
        clear hE a; intro a hE
        refine p_cons (s_still p4_7_2 hE wn_none rfl (st_move rfl) ?_)
        clear hE a; intro a hE
        refine p_cons (s_still p4_7_3 hE wn_none rfl (st_extract rfl rfl) ?_)
        clear hE a; intro a hE
        refine p_cons (s_still p4_7_4 hE wn_none rfl (st_extract rfl rfl) ?_)
        clear hE a; intro a hE
        refine p_cons (s_still p4_7_5 hE wn_none rfl (st_assign rfl) ?_)
        clear hE a; intro a hE
        refine p_cons (s_still p4_7_6 hE wn_none rfl (st_assign rfl) ?_)
        clear hE a; intro a hE
        refine p_nil ?_
        refine x_norm ?_
        refine c_reg R4_8_l ?_
        refine p_cons (s_call (xs := []) (args := []) p4_8_0 hE wn_none rfl rfl Try.func12 cl12 (known_any  _) ?_)
        rintro e w35 ⟨rfl, hk⟩
        replace K_0 := K_0.then_ hk (fun _ h => h.elim)
        refine ⟨_, rfl, ?_⟩
        clear hE a; intro a hE
        refine p_cons (s_still p4_8_1 hE wn_none rfl (st_move rfl) ?_)
        clear hE a; intro a hE
        refine p_cons (s_still p4_8_2 hE (wn_some g4_8_1 rfl rfl) rfl (st_move rfl) ?_)
        clear hE a; intro a hE
        refine p_cons (s_still p4_8_3 hE (wn_some g4_8_1 rfl rfl) rfl (st_eql (b := true) rfl rfl (by decide)) ?_)
        clear hE a; intro a hE
        refine p_cons (s_still p4_8_4 hE wn_none rfl (st_pick rfl rfl) ?_)
        clear hE a; intro a hE
        refine p_cons (s_still p4_8_5 hE wn_none rfl (st_move rfl) ?_)
        clear hE a; intro a hE
        refine p_cons (s_still p4_8_6 hE (wn_some g4_8_5 rfl rfl) rfl (st_move rfl) ?_)
        clear hE a; intro a hE
        refine p_cons (s_still p4_8_7 hE (wn_some g4_8_5 rfl rfl) rfl (st_eql (b := true) rfl rfl (by decide)) ?_)
        clear hE a; intro a hE
        refine p_cons (s_still p4_8_8 hE wn_none rfl (st_pick rfl rfl) ?_)
        clear hE a; intro a hE
        refine p_cons (s_still p4_8_9 hE wn_none rfl (st_move rfl) ?_)
        clear hE a; intro a hE
        refine p_cons (s_still p4_8_10 hE (wn_some g4_8_9 rfl rfl) rfl (st_move rfl) ?_)
        clear hE a; intro a hE
        refine p_cons (s_still p4_8_11 hE (wn_some g4_8_9 rfl rfl) rfl (st_move rfl) ?_)
        clear hE a; intro a hE
        refine p_cons (s_still p4_8_12 hE (wn_some g4_8_9 rfl rfl) rfl (st_eql (b := true) rfl rfl (by simp)) ?_)
        clear hE a; intro a hE
        refine p_cons (s_still p4_8_13 hE wn_none rfl (st_pick rfl rfl) ?_)
        clear hE a; intro a hE
        refine p_cons (s_still p4_8_14 hE wn_none rfl (st_move rfl) ?_)
        clear hE a; intro a hE
        refine p_cons (s_still p4_8_15 hE (wn_some g4_8_14 rfl rfl) rfl (st_move rfl) ?_)
        clear hE a; intro a hE
        refine p_cons (s_still p4_8_16 hE (wn_some g4_8_14 rfl rfl) rfl (st_lss (b := true) rfl rfl (decide_eq_true (by omega))) ?_)
        clear hE a; intro a hE
        refine p_cons (s_still p4_8_17 hE (wn_some g4_8_14 rfl rfl) rfl (st_move rfl) ?_)
        clear hE a; intro a hE
        refine p_cons (s_still p4_8_18 hE (wn_some g4_8_17 rfl rfl) rfl (st_move rfl) ?_)
        clear hE a; intro a hE
        refine p_cons (s_still p4_8_19 hE (wn_some g4_8_17 rfl rfl) rfl (st_farith (z := (fl c)) rfl rfl rfl hz4) ?_)
        clear hE a; intro a hE
        refine p_cons (s_still p4_8_20 hE (wn_some g4_8_17 rfl rfl) rfl (st_move rfl) ?_)
        clear hE a; intro a hE
        refine p_cons (s_still p4_8_21 hE (wn_some g4_8_17 rfl rfl) rfl (st_i2f (z := (fl c)) (by kernel_rfl) Try.underlying22 rfl (i2f_nat _)) ?_)
        clear hE a; intro a hE
        refine p_cons (s_still p4_8_22 hE (wn_some g4_8_17 rfl rfl) rfl (st_feql (b := true) rfl rfl (eq_self (fl_right (by omega) (by omega)))) ?_)
        clear hE a; intro a hE
        refine p_cons (s_still p4_8_23 hE (wn_some g4_8_14 rfl rfl) rfl (st_pick rfl rfl) ?_)
        clear hE a; intro a hE
        refine p_cons (s_still p4_8_24 hE (wn_some g4_8_14 rfl rfl) rfl (st_move rfl) ?_)
        clear hE a; intro a hE
        refine p_cons (s_skip p4_8_25 hE (wn_some g4_8_24 rfl rfl) rfl ?_)
        clear hE a; intro a hE
        refine p_cons (s_skip p4_8_26 hE (wn_some g4_8_24 rfl rfl) rfl ?_)
        clear hE a; intro a hE
        refine p_cons (s_skip p4_8_27 hE (wn_some g4_8_24 rfl rfl) rfl ?_)
        clear hE a; intro a hE
        refine p_cons (s_skip p4_8_28 hE (wn_undef g4_8_27 rfl) rfl ?_)
        clear hE a; intro a hE
        refine p_cons (s_skip p4_8_29 hE (wn_undef g4_8_27 rfl) rfl ?_)
        clear hE a; intro a hE
        refine p_cons (s_skip p4_8_30 hE (wn_some g4_8_24 rfl rfl) rfl ?_)
        clear hE a; intro a hE
        refine p_cons (s_still p4_8_31 hE (wn_some g4_8_14 rfl rfl) rfl (st_pick rfl rfl) ?_)
        clear hE a; intro a hE
        refine p_cons (s_still p4_8_32 hE wn_none rfl (st_pick rfl rfl) ?_)
        clear hE a; intro a hE
        refine p_cons (s_still p4_8_33 hE wn_none rfl (st_assign rfl) ?_)
        clear hE a; intro a hE
        refine p_nil ?_
        refine x_norm ?_
        refine wp_ret ?_
        refine ret_one (v := Value.bool true) rfl hE (.tmp rfl .nil) ?_
        exact ⟨rfl, K_0.to (Nat.le_refl _) (fun _ h => h.elim)⟩
    ·
      refine c_reg R4_1_l ?_
      refine p_cons (s_still p4_1_0 hE wn_none rfl (st_move rfl) ?_)
      clear hE a; intro a hE
      refine p_cons (s_call (xs := [Operand.tmp 12]) (args := [Value.float .f64 x]) p4_1_1 hE wn_none rfl rfl Try.func10 cl10 (cost_any x (by omega) 0 1 (by unfold costV; rw [if_neg hR_x]) (by unfold costE; rw [if_neg hR_x]) _) ?_)
      rintro e w36 ⟨rfl, hk⟩
      replace K_0 := K_0.then_ hk (fun _ h => h.elim)
      refine ⟨_, rfl, ?_⟩
      clear hE a; intro a hE
      refine p_cons (s_still p4_1_2 hE wn_none rfl (st_move rfl) ?_)
      clear hE a; intro a hE
      refine p_cons (s_still p4_1_3 hE wn_none rfl (st_extract rfl rfl) ?_)
      clear hE a; intro a hE
      refine p_cons (s_still p4_1_4 hE wn_none rfl (st_extract rfl rfl) ?_)
      clear hE a; intro a hE
      refine p_cons (s_still p4_1_5 hE wn_none rfl (st_assign rfl) ?_)
      clear hE a; intro a hE
      refine p_cons (s_still p4_1_6 hE wn_none rfl (st_assign rfl) ?_)
      clear hE a; intro a hE
      refine p_nil ?_
      refine x_norm ?_
      refine c_reg R4_2_l ?_
      refine p_cons (s_still p4_2_0 hE wn_none rfl (st_move rfl) ?_)
      clear hE a; intro a hE
      refine p_cons (s_call (xs := [Operand.tmp 17]) (args := [Value.int .i64 c]) p4_2_1 hE wn_none rfl rfl Try.func13 cl13 (Float_no c hC1 _) ?_)
      rintro e w37 ⟨rfl, hk⟩
      replace K_0 := K_0.then_ hk (fun _ h => h.elim)
      refine ⟨_, rfl, ?_⟩
      clear hE a; intro a hE
      refine p_cons (s_still p4_2_2 hE wn_none rfl (st_move rfl) ?_)
      clear hE a; intro a hE
      refine p_cons (s_still p4_2_3 hE wn_none rfl (st_extract rfl rfl) ?_)
      clear hE a; intro a hE
      refine p_cons (s_still p4_2_4 hE wn_none rfl (st_extract rfl rfl) ?_)
      clear hE a; intro a hE
      refine p_cons (s_still p4_2_5 hE wn_none rfl (st_assign rfl) ?_)
      clear hE a; intro a hE
      refine p_cons (s_still p4_2_6 hE wn_none rfl (st_assign rfl) ?_)
      clear hE a; intro a hE
      refine p_nil ?_
      refine x_norm ?_
      refine wp_seq ?_
      refine c_reg R4_3_l ?_
      refine p_cons (s_still p4_3_0 hE wn_none rfl (st_move rfl) ?_)
      clear hE a; intro a hE
      refine p_cons (s_call (xs := [Operand.tmp 21]) (args := [Value.float .f64 x]) p4_3_1 hE wn_none rfl rfl Try.func14 cl14 (rright_any x (by omega) false (decide_eq_false hR_x) _) ?_)
      rintro e w38 ⟨rfl, hk⟩
      replace K_0 := K_0.then_ hk (fun _ h => h.elim)
      refine ⟨_, rfl, ?_⟩
      clear hE a; intro a hE
      refine p_cons (s_still p4_3_2 hE wn_none rfl (st_move rfl) ?_)
      clear hE a; intro a hE
      refine p_cons (s_skip p4_3_3 hE (wn_some g4_3_2 rfl rfl) rfl ?_)
      clear hE a; intro a hE
      refine p_cons (s_skip p4_3_4 hE (wn_some g4_3_2 rfl rfl) rfl ?_)
      clear hE a; intro a hE
      refine p_cons (s_skip p4_3_5 hE (wn_some g4_3_2 rfl rfl) rfl ?_)
      clear hE a; intro a hE
      refine p_cons (s_skip p4_3_6 hE (wn_undef g4_3_5 rfl) rfl ?_)
      clear hE a; intro a hE
      refine p_cons (s_skip p4_3_7 hE (wn_undef g4_3_5 rfl) rfl ?_)
      clear hE a; intro a hE
      refine p_cons (s_skip p4_3_8 hE (wn_undef g4_3_5 rfl) rfl ?_)
      clear hE a; intro a hE
      refine p_cons (s_skip p4_3_9 hE (wn_undef g4_3_5 rfl) rfl ?_)
      clear hE a; intro a hE
      refine p_cons (s_skip p4_3_10 hE (wn_some g4_3_2 rfl rfl) rfl ?_)
      clear hE a; intro a hE
      refine p_cons (s_still p4_3_11 hE wn_none rfl (st_pick rfl rfl) ?_)
      clear hE a; intro a hE
      refine p_cons (s_still p4_3_12 hE wn_none rfl (st_move rfl) ?_)
      clear hE a; intro a hE
      refine p_cons (s_still p4_3_13 hE (wn_some g4_3_12 rfl rfl) rfl (st_move rfl) ?_)
      clear hE a; intro a hE
      refine p_cons (s_call (xs := [Operand.tmp 34]) (args := [Value.float .f64 x]) p4_3_14 hE (wn_some g4_3_12 rfl rfl) rfl rfl Try.func14 cl14 (rright_any x (by omega) false (decide_eq_false hR_x) _) ?_)
      rintro e w39 ⟨rfl, hk⟩
      replace K_0 := K_0.then_ hk (fun _ h => h.elim)
      refine ⟨_, rfl, ?_⟩
      clear hE a; intro a hE
      refine p_cons (s_still p4_3_15 hE (wn_some g4_3_12 rfl rfl) rfl (st_not rfl rfl) ?_)
      clear hE a; intro a hE
      refine p_cons (s_still p4_3_16 hE (wn_some g4_3_12 rfl rfl) rfl (st_move rfl) ?_)
      clear hE a; intro a hE
      refine p_cons (s_still p4_3_17 hE (wn_some g4_3_16 rfl rfl) rfl (st_move rfl) ?_)
      clear hE a; intro a hE
      refine p_cons (s_still p4_3_18 hE (wn_some g4_3_16 rfl rfl) rfl (st_neq (b := false) rfl rfl (by decide)) ?_)
      clear hE a; intro a hE
      refine p_cons (s_still p4_3_19 hE (wn_some g4_3_16 rfl rfl) rfl (st_move rfl) ?_)
      clear hE a; intro a hE
      refine p_cons (s_still p4_3_20 hE (wn_some g4_3_19 rfl rfl) rfl (st_move rfl) ?_)
      clear hE a; intro a hE
      refine p_cons (s_still p4_3_21 hE (wn_some g4_3_19 rfl rfl) rfl (st_neq (b := false) rfl rfl (by decide)) ?_)
      clear hE a; intro a hE
      refine p_cons (s_still p4_3_22 hE (wn_some g4_3_16 rfl rfl) rfl (st_pick rfl rfl) ?_)
      clear hE a; intro a hE
      refine p_cons (s_still p4_3_23 hE (wn_some g4_3_12 rfl rfl) rfl (st_pick rfl rfl) ?_)
      clear hE a; intro a hE
      refine p_cons (s_still p4_3_24 hE wn_none rfl (st_pick rfl rfl) ?_)
      clear hE a; intro a hE
      refine p_nil ?_
      refine x_norm ?_
      refine c_cond (t := false) hE rfl ?_
      refine wp_skip ?_
      refine x_norm ?_
      refine wp_seq ?_
      rcases Decidable.em (c < 128) with hlo | hlo
      ·
        refine c_reg R4_5_l ?_
        refine p_cons (s_still p4_5_0 hE wn_none rfl (st_move rfl) ?_)
        clear hE a; intro a hE
        refine p_cons (s_still p4_5_1 hE wn_none rfl (st_lss (b := true) rfl rfl (decide_eq_true hlo)) ?_)
        clear hE a; intro a hE
        refine p_cons (s_still p4_5_2 hE wn_none rfl (st_move rfl) ?_)
        clear hE a; intro a hE
        refine p_cons (s_skip p4_5_3 hE (wn_some g4_5_2 rfl rfl) rfl ?_)
        clear hE a; intro a hE
        refine p_cons (s_skip p4_5_4 hE (wn_some g4_5_2 rfl rfl) rfl ?_)
        clear hE a; intro a hE
        refine p_cons (s_still p4_5_5 hE wn_none rfl (st_pick rfl rfl) ?_)
        clear hE a; intro a hE
        refine p_nil ?_
        refine x_norm ?_
        refine c_cond (t := true) hE rfl ?_
        refine c_reg R4_6_l ?_
        refine p_cons (s_call (xs := []) (args := []) p4_6_0 hE wn_none rfl rfl Try.func12 cl12 (known_any  _) ?_)
        rintro e w40 ⟨rfl, hk⟩
        replace K_0 := K_0.then_ hk (fun _ h => h.elim)
        refine ⟨_, rfl, ?_⟩
        clear hE a; intro a hE
        refine p_cons (s_still p4_6_1 hE wn_none rfl (st_move rfl) ?_)
        clear hE a; intro a hE
        refine p_cons (s_still p4_6_2 hE (wn_some g4_6_1 rfl rfl) rfl (st_move rfl) ?_)
        clear hE a; intro a hE
        refine p_cons (s_still p4_6_3 hE (wn_some g4_6_1 rfl rfl) rfl (st_eql (b := true) rfl rfl (by decide)) ?_)
        clear hE a; intro a hE
        refine p_cons (s_still p4_6_4 hE wn_none rfl (st_pick rfl rfl) ?_)
        clear hE a; intro a hE
        refine p_cons (s_still p4_6_5 hE wn_none rfl (st_move rfl) ?_)
        clear hE a; intro a hE
        refine p_cons (s_still p4_6_6 hE (wn_some g4_6_5 rfl rfl) rfl (st_move rfl) ?_)
        clear hE a; intro a hE
        refine p_cons (s_still p4_6_7 hE (wn_some g4_6_5 rfl rfl) rfl (st_feql (b := true) rfl rfl (by decide +kernel)) ?_)
        clear hE a; intro a hE
        refine p_cons (s_still p4_6_8 hE wn_none rfl (st_pick rfl rfl) ?_)
        clear hE a; intro a hE
        refine p_cons (s_still p4_6_9 hE wn_none rfl (st_assign rfl) ?_)
        clear hE a; intro a hE
        refine p_nil ?_
        refine x_norm ?_
        refine wp_ret ?_
        refine x_ret ?_
        refine ret_one (v := Value.bool true) rfl hE (.tmp rfl .nil) ?_
        exact ⟨rfl, K_0.to (Nat.le_refl _) (fun _ h => h.elim)⟩
      ·
        refine c_reg R4_5_l ?_
        refine p_cons (s_still p4_5_0 hE wn_none rfl (st_move rfl) ?_)
        clear hE a; intro a hE
        refine p_cons (s_still p4_5_1 hE wn_none rfl (st_lss (b := false) rfl rfl (decide_eq_false (by omega))) ?_)
        clear hE a; intro a hE
        refine p_cons (s_still p4_5_2 hE wn_none rfl (st_move rfl) ?_)
        clear hE a; intro a hE
        refine p_cons (s_still p4_5_3 hE (wn_some g4_5_2 rfl rfl) rfl (st_move rfl) ?_)
        clear hE a; intro a hE
        refine p_cons (s_still p4_5_4 hE (wn_some g4_5_2 rfl rfl) rfl (st_gtr (b := true) rfl rfl (decide_eq_true (by omega))) ?_)
        clear hE a; intro a hE
        refine p_cons (s_still p4_5_5 hE wn_none rfl (st_pick rfl rfl) ?_)
        clear hE a; intro a hE
        refine p_nil ?_
        refine x_norm ?_
        refine c_cond (t := true) hE rfl ?_
        refine c_reg R4_6_l ?_
        refine p_cons (s_call (xs := []) (args := []) p4_6_0 hE wn_none rfl rfl Try.func12 cl12 (known_any  _) ?_)
        rintro e w41 ⟨rfl, hk⟩
        replace K_0 := K_0.then_ hk (fun _ h => h.elim)
        refine ⟨_, rfl, ?_⟩
        clear hE a; intro a hE
        refine p_cons (s_still p4_6_1 hE wn_none rfl (st_move rfl) ?_)
        clear hE a; intro a hE
        refine p_cons (s_still p4_6_2 hE (wn_some g4_6_1 rfl rfl) rfl (st_move rfl) ?_)
        clear hE a; intro a hE
        refine p_cons (s_still p4_6_3 hE (wn_some g4_6_1 rfl rfl) rfl (st_eql (b := true) rfl rfl (by decide)) ?_)
        clear hE a; intro a hE
        refine p_cons (s_still p4_6_4 hE wn_none rfl (st_pick rfl rfl) ?_)
        clear hE a; intro a hE
        refine p_cons (s_still p4_6_5 hE wn_none rfl (st_move rfl) ?_)
        clear hE a; intro a hE
        refine p_cons (s_still p4_6_6 hE (wn_some g4_6_5 rfl rfl) rfl (st_move rfl) ?_)
        clear hE a; intro a hE
        refine p_cons (s_still p4_6_7 hE (wn_some g4_6_5 rfl rfl) rfl (st_feql (b := true) rfl rfl (by decide +kernel)) ?_)
        clear hE a; intro a hE
        refine p_cons (s_still p4_6_8 hE wn_none rfl (st_pick rfl rfl) ?_)
        clear hE a; intro a hE
        refine p_cons (s_still p4_6_9 hE wn_none rfl (st_assign rfl) ?_)
        clear hE a; intro a hE
        refine p_nil ?_
        refine x_norm ?_
        refine wp_ret ?_
        refine x_ret ?_
        refine ret_one (v := Value.bool true) rfl hE (.tmp rfl .nil) ?_
        exact ⟨rfl, K_0.to (Nat.le_refl _) (fun _ h => h.elim)⟩
end Go.Proofs.Ytpnpfapdjdcnbaa.MCos
