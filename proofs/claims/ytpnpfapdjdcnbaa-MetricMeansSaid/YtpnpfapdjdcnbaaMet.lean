/- Package metric. -/
import Derived.Test.YtpnpfapdjdcnbaaChecked
import Derived.Test.YtpnpfapdjdcnbaaFlo
import Derived.Test.YtpnpfapdjdcnbaaFl
import Derived.Test.YtpnpfapdjdcnbaaRs
set_option maxRecDepth 100000
set_option linter.unusedVariables false
set_option linter.unusedSimpArgs false
namespace Go.Proofs.Ytpnpfapdjdcnbaa.Me
open Go.RowKit Go.Proofs.YtpnpfapdjdcnbaaW.PrintWords Go.Proofs.Ytpnpfapdjdcnbaa.Ds Go.Proofs.Ytpnpfapdjdcnbaa.Fl
open Go.Proofs.Ytpnpfapdjdcnbaa.Pk (Kp)
open Ieee (double)
theorem ext_round {x : Nat} {s : Bool} {mm : Nat} {p : Int} {r : Nat} (hx : double.read x = .number s mm p) (hr : double.write ((double.read x).integral .even) = r) (w : World) : (callFunc 43 #[.float .f64 x]).run Try.prog w = .ok (.value (.float .f64 r)) w := by
  rw [run_callFunc_extern Try.func43 (by kernel_rfl) (by kernel_rfl) (by kernel_rfl) (e := Extern.MathFloor.toIntegral "math.RoundToEven" .even) (by kernel_rfl)]
  have h1 : FloatKind.f64.decode x = .number s mm p := hx
  have h2 : FloatKind.f64.encode ((Ieee.Datum.number s mm p).integral .even) = r := by rw [← hr, hx]; rfl
  have h3 : (Extern.MathFloor.toIntegral "math.RoundToEven" .even #[.float .f64 x]).run Try.prog w = .ok (.float .f64 r) w := by
    rw [← h2]
    unfold Extern.MathFloor.toIntegral
    show Sem.run _ (Extern.MathFloor.toIntegral.match_1 (fun _ => Sem Value) (FloatKind.f64.decode x) _ _) w = _
    rw [h1]
    rfl
  rw [h3]
  rfl
theorem ext_from (n : Nat) (w : World) : (callFunc 60 #[.int .u64 (n : Int)]).run Try.prog w = .ok (.value (.float .f64 n)) w := by
  rw [run_callFunc_extern Try.func60 (by kernel_rfl) (by kernel_rfl) (by kernel_rfl) (e := Extern.MathFloatBits.float64frombits) (by kernel_rfl)]
  show ((pure (Value.float .f64 (n : Int).toNat) : Sem Value).run _ w).andThen _ = _
  rw [Int.toNat_natCast]
  rfl
theorem R59_0_l : List.range (regOf Try.f59 0).size = [0] := by kernel_rfl
theorem R59_1_l : List.range (regOf Try.f59 1).size = [0, 1, 2, 3] := by kernel_rfl
theorem body59 : Try.f59.body = some (.seq (.region 0 (regOf Try.f59 0) false) (.seq (.region 1 (regOf Try.f59 1) false) (.ret))) := by kernel_rfl
theorem p59_0_0 : pj (regOf Try.f59 0) 0 = some (some 2, Op.assign (Operand.const (Value.bool false)), 4, none) := by kernel_rfl
theorem p59_1_0 : pj (regOf Try.f59 1) 0 = some (some 3, Op.move (Operand.tmp 0), 22, none) := by kernel_rfl
theorem p59_1_1 : pj (regOf Try.f59 1) 1 = some (some 4, Op.move (Operand.tmp 0), 22, none) := by kernel_rfl
theorem p59_1_2 : pj (regOf Try.f59 1) 2 = some (some 5, Op.binOp BinOp.neq 22 (Operand.tmp 3) (Operand.tmp 4) 22, 4, none) := by kernel_rfl
theorem p59_1_3 : pj (regOf Try.f59 1) 3 = some (some 2, Op.assign (Operand.tmp 5), 4, none) := by kernel_rfl
set_option maxHeartbeats 4000000 in
theorem isnan_any (x : Nat) (b : Bool) (hb : (double.order x x != some .eq) = b) (w : World) : Calls Try.prog 59 #[.float .f64 x] w fun e w' => e = .returned (.bool b) ∧ Kp w w' (fun _ => False) := by
  have K_0 := Kp.refl w (fun _ => False)
  refine enter (args := [Value.float .f64 x]) (n := 6) Try.func59 body59 rfl rfl rfl ?_
  intro a hE
  refine c_reg R59_0_l ?_
  refine p_cons (s_still p59_0_0 hE wn_none rfl (st_assign rfl) ?_)
  clear hE a; intro a hE
  refine p_nil ?_
  refine x_norm ?_
  refine c_reg R59_1_l ?_
  refine p_cons (s_still p59_1_0 hE wn_none rfl (st_move rfl) ?_)
  clear hE a; intro a hE
  refine p_cons (s_still p59_1_1 hE wn_none rfl (st_move rfl) ?_)
  clear hE a; intro a hE
  refine p_cons (s_still p59_1_2 hE wn_none rfl (st_fneq (b := b) rfl rfl hb) ?_)
  clear hE a; intro a hE
  refine p_cons (s_still p59_1_3 hE wn_none rfl (st_assign rfl) ?_)
  clear hE a; intro a hE
  refine p_nil ?_
  refine x_norm ?_
  refine wp_ret ?_
  refine ret_one (v := Value.bool b) rfl hE (.tmp rfl .nil) ?_
  exact ⟨rfl, K_0⟩
theorem R42_0_l : List.range (regOf Try.f42 0).size = [0] := by kernel_rfl
theorem R42_1_l : List.range (regOf Try.f42 1).size = [0, 1, 2, 3, 4, 5, 6, 7] := by kernel_rfl
theorem body42 : Try.f42.body = some (.seq (.region 0 (regOf Try.f42 0) false) (.seq (.region 1 (regOf Try.f42 1) false) (.ret))) := by kernel_rfl
theorem p42_0_0 : pj (regOf Try.f42 0) 0 = some (some 2, Op.assign (Operand.const (Value.bool false)), 4, none) := by kernel_rfl
theorem p42_1_0 : pj (regOf Try.f42 1) 0 = some (some 3, Op.move (Operand.tmp 0), 22, none) := by kernel_rfl
theorem p42_1_1 : pj (regOf Try.f42 1) 1 = some (some 4, Op.call { callee := Callee.value (Operand.func 59), args := #[Operand.tmp 3], argTypes := #[22] }, 4, none) := by kernel_rfl
theorem cl59 : callable Try.f59 = true := by kernel_rfl
theorem p42_1_2 : pj (regOf Try.f42 1) 2 = some (some 5, Op.unOp UnOp.not 4 (Operand.tmp 4), 4, none) := by kernel_rfl
theorem p42_1_3 : pj (regOf Try.f42 1) 3 = some (some 6, Op.move (Operand.tmp 5), 4, none) := by kernel_rfl
theorem p42_1_4 : pj (regOf Try.f42 1) 4 = some (some 7, Op.move (Operand.tmp 0), 22, some (3, true)) := by kernel_rfl
theorem g42_1_3 : dstOf (regOf Try.f42 1) 3 = some 6 := by kernel_rfl
theorem p42_1_5 : pj (regOf Try.f42 1) 5 = some (some 8, Op.binOp BinOp.geq 22 (Operand.tmp 7) (Operand.const (Value.float FloatKind.f64 4607182418800017408)) 22, 4, some (3, true)) := by kernel_rfl
theorem p42_1_6 : pj (regOf Try.f42 1) 6 = some (some 9, Op.pick (Operand.tmp 6) (Operand.tmp 8) (Operand.const (Value.bool false)), 4, none) := by kernel_rfl
theorem p42_1_7 : pj (regOf Try.f42 1) 7 = some (some 2, Op.assign (Operand.tmp 9), 4, none) := by kernel_rfl
set_option maxHeartbeats 4000000 in
theorem right_any (x : Nat) (hx : x < 18446744073709551616) (b : Bool) (hb : decide (right x) = b) (w : World) : Calls Try.prog 42 #[.float .f64 x] w fun e w' => e = .returned (.bool b) ∧ Kp w w' (fun _ => False) := by
  have K_0 := Kp.refl w (fun _ => False)
  refine enter (args := [Value.float .f64 x]) (n := 10) Try.func42 body42 rfl rfl rfl ?_
  intro a hE
  refine c_reg R42_0_l ?_
  refine p_cons (s_still p42_0_0 hE wn_none rfl (st_assign rfl) ?_)
  clear hE a; intro a hE
  refine p_nil ?_
  refine x_norm ?_
  rcases Decidable.em ((double.order x x != some .eq) = true) with hNA | hNA
  ·
    refine c_reg R42_1_l ?_
    refine p_cons (s_still p42_1_0 hE wn_none rfl (st_move rfl) ?_)
    clear hE a; intro a hE
    refine p_cons (s_call (xs := [Operand.tmp 3]) (args := [Value.float .f64 x]) p42_1_1 hE wn_none rfl rfl Try.func59 cl59 (isnan_any x true hNA _) ?_)
    rintro e w1 ⟨rfl, hk⟩
    replace K_0 := K_0.then_ hk (fun _ h => h.elim)
    refine ⟨_, rfl, ?_⟩
    clear hE a; intro a hE
    refine p_cons (s_still p42_1_2 hE wn_none rfl (st_not rfl rfl) ?_)
    clear hE a; intro a hE
    refine p_cons (s_still p42_1_3 hE wn_none rfl (st_move rfl) ?_)
    clear hE a; intro a hE
    refine p_cons (s_skip p42_1_4 hE (wn_some g42_1_3 rfl rfl) rfl ?_)
    clear hE a; intro a hE
    refine p_cons (s_skip p42_1_5 hE (wn_some g42_1_3 rfl rfl) rfl ?_)
    clear hE a; intro a hE
    refine p_cons (s_still p42_1_6 hE wn_none rfl (st_pick rfl rfl) ?_)
    clear hE a; intro a hE
    refine p_cons (s_still p42_1_7 hE wn_none rfl (st_assign rfl) ?_)
    clear hE a; intro a hE
    refine p_nil ?_
    refine x_norm ?_
    refine wp_ret ?_
    refine ret_one (v := Value.bool false) rfl hE (.tmp rfl .nil) ?_
    exact ⟨by rw [← hb, decide_eq_false (nan_not hNA)], K_0⟩
  ·
    refine c_reg R42_1_l ?_
    refine p_cons (s_still p42_1_0 hE wn_none rfl (st_move rfl) ?_)
    clear hE a; intro a hE
    refine p_cons (s_call (xs := [Operand.tmp 3]) (args := [Value.float .f64 x]) p42_1_1 hE wn_none rfl rfl Try.func59 cl59 (isnan_any x false (by simpa using hNA) _) ?_)
    rintro e w2 ⟨rfl, hk⟩
    replace K_0 := K_0.then_ hk (fun _ h => h.elim)
    refine ⟨_, rfl, ?_⟩
    clear hE a; intro a hE
    refine p_cons (s_still p42_1_2 hE wn_none rfl (st_not rfl rfl) ?_)
    clear hE a; intro a hE
    refine p_cons (s_still p42_1_3 hE wn_none rfl (st_move rfl) ?_)
    clear hE a; intro a hE
    refine p_cons (s_still p42_1_4 hE (wn_some g42_1_3 rfl rfl) rfl (st_move rfl) ?_)
    clear hE a; intro a hE
    refine p_cons (s_still p42_1_5 hE (wn_some g42_1_3 rfl rfl) rfl (st_fgeq (b := (decide (right x))) rfl rfl (ge_one hx)) ?_)
    clear hE a; intro a hE
    refine p_cons (s_still p42_1_6 hE wn_none rfl (st_pick rfl rfl) ?_)
    clear hE a; intro a hE
    refine p_cons (s_still p42_1_7 hE wn_none rfl (st_assign rfl) ?_)
    clear hE a; intro a hE
    refine p_nil ?_
    refine x_norm ?_
    refine wp_ret ?_
    refine ret_one (v := Value.bool (decide (right x))) rfl hE (.tmp rfl .nil) ?_
    exact ⟨by rw [← hb], K_0⟩
theorem R10_0_l : List.range (regOf Try.f10 0).size = [0, 1] := by kernel_rfl
theorem R10_1_l : List.range (regOf Try.f10 1).size = [0, 1, 2, 3] := by kernel_rfl
theorem R10_2_l : List.range (regOf Try.f10 2).size = [0, 1] := by kernel_rfl
theorem R10_3_l : List.range (regOf Try.f10 3).size = [0, 1, 2] := by kernel_rfl
theorem R10_4_l : List.range (regOf Try.f10 4).size = [0, 1] := by kernel_rfl
theorem R10_5_l : List.range (regOf Try.f10 5).size = [0, 1, 2, 3, 4, 5, 6] := by kernel_rfl
theorem body10 : Try.f10.body = some (.seq (.region 0 (regOf Try.f10 0) false) (.seq (.block 0 (.seq (.region 1 (regOf Try.f10 1) false) (.cond (Operand.tmp 4) (.seq (.region 2 (regOf Try.f10 2) false) (.ret)) (.seq (.region 3 (regOf Try.f10 3) false) (.cond (Operand.tmp 8) (.seq (.region 4 (regOf Try.f10 4) false) (.ret)) (.skip)))))) (.seq (.region 5 (regOf Try.f10 5) false) (.ret)))) := by kernel_rfl
theorem p10_0_0 : pj (regOf Try.f10 0) 0 = some (some 2, Op.assign (Operand.const (Value.int IntKind.i64 0)), 3, none) := by kernel_rfl
theorem p10_0_1 : pj (regOf Try.f10 0) 1 = some (some 3, Op.assign (Operand.const (Value.int IntKind.i64 0)), 23, none) := by kernel_rfl
theorem p10_1_0 : pj (regOf Try.f10 1) 0 = some (some 5, Op.move (Operand.tmp 0), 22, none) := by kernel_rfl
theorem p10_1_1 : pj (regOf Try.f10 1) 1 = some (some 6, Op.call { callee := Callee.value (Operand.func 42), args := #[Operand.tmp 5], argTypes := #[22] }, 4, none) := by kernel_rfl
theorem cl42 : callable Try.f42 = true := by kernel_rfl
theorem p10_1_2 : pj (regOf Try.f10 1) 2 = some (some 7, Op.unOp UnOp.not 4 (Operand.tmp 6), 4, none) := by kernel_rfl
theorem p10_1_3 : pj (regOf Try.f10 1) 3 = some (some 4, Op.assign (Operand.tmp 7), 4, none) := by kernel_rfl
theorem p10_3_0 : pj (regOf Try.f10 3) 0 = some (some 9, Op.move (Operand.tmp 0), 22, none) := by kernel_rfl
theorem p10_3_1 : pj (regOf Try.f10 3) 1 = some (some 10, Op.binOp BinOp.geq 22 (Operand.tmp 9) (Operand.const (Value.float FloatKind.f64 4647714815446351872)) 22, 4, none) := by kernel_rfl
theorem p10_3_2 : pj (regOf Try.f10 3) 2 = some (some 8, Op.assign (Operand.tmp 10), 4, none) := by kernel_rfl
theorem p10_4_0 : pj (regOf Try.f10 4) 0 = some (some 2, Op.assign (Operand.const (Value.int IntKind.i64 65535)), 3, none) := by kernel_rfl
theorem p10_4_1 : pj (regOf Try.f10 4) 1 = some (some 3, Op.assign (Operand.const (Value.int IntKind.i64 0)), 23, none) := by kernel_rfl
theorem p10_5_0 : pj (regOf Try.f10 5) 0 = some (some 11, Op.move (Operand.tmp 0), 22, none) := by kernel_rfl
theorem p10_5_1 : pj (regOf Try.f10 5) 1 = some (some 12, Op.binOp BinOp.mul 22 (Operand.tmp 11) (Operand.const (Value.float FloatKind.f64 4638707616191610880)) 22, 22, none) := by kernel_rfl
theorem p10_5_2 : pj (regOf Try.f10 5) 2 = some (some 13, Op.call { callee := Callee.value (Operand.func 43), args := #[Operand.tmp 12], argTypes := #[22] }, 22, none) := by kernel_rfl
theorem p10_5_3 : pj (regOf Try.f10 5) 3 = some (some 14, Op.convert 22 3 (Operand.tmp 13), 3, none) := by kernel_rfl
theorem p10_5_4 : pj (regOf Try.f10 5) 4 = some (some 15, Op.call { callee := Callee.builtin Builtin.min, args := #[Operand.tmp 14, Operand.const (Value.int IntKind.i64 65535)], argTypes := #[3, 3] }, 3, none) := by kernel_rfl
theorem p10_5_5 : pj (regOf Try.f10 5) 5 = some (some 2, Op.assign (Operand.tmp 15), 3, none) := by kernel_rfl
theorem p10_5_6 : pj (regOf Try.f10 5) 6 = some (some 3, Op.assign (Operand.const (Value.int IntKind.i64 0)), 23, none) := by kernel_rfl
theorem p10_2_0 : pj (regOf Try.f10 2) 0 = some (some 2, Op.assign (Operand.const (Value.int IntKind.i64 0)), 3, none) := by kernel_rfl
theorem p10_2_1 : pj (regOf Try.f10 2) 1 = some (some 3, Op.assign (Operand.const (Value.int IntKind.i64 1)), 23, none) := by kernel_rfl
set_option maxHeartbeats 4000000 in
theorem cost_any (x : Nat) (hx : x < 18446744073709551616) (v e0 : Int) (hv : costV x = v) (he : costE x = e0) (w : World) : Calls Try.prog 10 #[.float .f64 x] w fun e w' => e = .returned (.tuple #[.int .i64 v, .int .i64 e0]) ∧ Kp w w' (fun _ => False) := by
  have K_0 := Kp.refl w (fun _ => False)
  refine enter (args := [Value.float .f64 x]) (n := 16) Try.func10 body10 rfl rfl rfl ?_
  intro a hE
  rcases Decidable.em (right x) with hR_x | hR_x
  ·
    rcases Decidable.em (4647714815446351872 ≤ x) with hG | hG
    ·
      refine c_reg R10_0_l ?_
      refine p_cons (s_still p10_0_0 hE wn_none rfl (st_assign rfl) ?_)
      clear hE a; intro a hE
      refine p_cons (s_still p10_0_1 hE wn_none rfl (st_assign rfl) ?_)
      clear hE a; intro a hE
      refine p_nil ?_
      refine x_norm ?_
      refine wp_seq ?_
      refine wp_block ?_
      refine c_reg R10_1_l ?_
      refine p_cons (s_still p10_1_0 hE wn_none rfl (st_move rfl) ?_)
      clear hE a; intro a hE
      refine p_cons (s_call (xs := [Operand.tmp 5]) (args := [Value.float .f64 x]) p10_1_1 hE wn_none rfl rfl Try.func42 cl42 (right_any x (by omega) true (decide_eq_true hR_x) _) ?_)
      rintro e w1 ⟨rfl, hk⟩
      replace K_0 := K_0.then_ hk (fun _ h => h.elim)
      refine ⟨_, rfl, ?_⟩
      clear hE a; intro a hE
      refine p_cons (s_still p10_1_2 hE wn_none rfl (st_not rfl rfl) ?_)
      clear hE a; intro a hE
      refine p_cons (s_still p10_1_3 hE wn_none rfl (st_assign rfl) ?_)
      clear hE a; intro a hE
      refine p_nil ?_
      refine x_norm ?_
      refine c_cond (t := false) hE rfl ?_
      refine c_reg R10_3_l ?_
      refine p_cons (s_still p10_3_0 hE wn_none rfl (st_move rfl) ?_)
      clear hE a; intro a hE
      refine p_cons (s_still p10_3_1 hE wn_none rfl (st_fgeq (b := true) rfl rfl (by rw [ge_right hx (by decide) (by decide)]; exact decide_eq_true ⟨hR_x, hG⟩)) ?_)
      clear hE a; intro a hE
      refine p_cons (s_still p10_3_2 hE wn_none rfl (st_assign rfl) ?_)
      clear hE a; intro a hE
      refine p_nil ?_
      refine x_norm ?_
      refine c_cond (t := true) hE rfl ?_
      refine c_reg R10_4_l ?_
      refine p_cons (s_still p10_4_0 hE wn_none rfl (st_assign rfl) ?_)
      clear hE a; intro a hE
      refine p_cons (s_still p10_4_1 hE wn_none rfl (st_assign rfl) ?_)
      clear hE a; intro a hE
      refine p_nil ?_
      refine x_norm ?_
      refine wp_ret ?_
      refine x_retB ?_
      refine x_ret ?_
      refine ret_list (rs := [.tmp 2, .tmp 3]) (vs := [Value.int .i64 65535, Value.int .i64 0]) rfl hE (.tmp rfl (.tmp rfl .nil)) rfl ?_
      exact ⟨by rw [← hv, ← he]; unfold costV costE; rw [if_pos hR_x, if_pos hR_x, if_pos hG], K_0⟩
    ·
      refine c_reg R10_0_l ?_
      refine p_cons (s_still p10_0_0 hE wn_none rfl (st_assign rfl) ?_)
      clear hE a; intro a hE
      refine p_cons (s_still p10_0_1 hE wn_none rfl (st_assign rfl) ?_)
      clear hE a; intro a hE
      refine p_nil ?_
      refine x_norm ?_
      refine wp_seq ?_
      refine wp_block ?_
      refine c_reg R10_1_l ?_
      refine p_cons (s_still p10_1_0 hE wn_none rfl (st_move rfl) ?_)
      clear hE a; intro a hE
      refine p_cons (s_call (xs := [Operand.tmp 5]) (args := [Value.float .f64 x]) p10_1_1 hE wn_none rfl rfl Try.func42 cl42 (right_any x (by omega) true (decide_eq_true hR_x) _) ?_)
      rintro e w2 ⟨rfl, hk⟩
      replace K_0 := K_0.then_ hk (fun _ h => h.elim)
      refine ⟨_, rfl, ?_⟩
      clear hE a; intro a hE
      refine p_cons (s_still p10_1_2 hE wn_none rfl (st_not rfl rfl) ?_)
      clear hE a; intro a hE
      refine p_cons (s_still p10_1_3 hE wn_none rfl (st_assign rfl) ?_)
      clear hE a; intro a hE
      refine p_nil ?_
      refine x_norm ?_
      refine c_cond (t := false) hE rfl ?_
      refine c_reg R10_3_l ?_
      refine p_cons (s_still p10_3_0 hE wn_none rfl (st_move rfl) ?_)
      clear hE a; intro a hE
      refine p_cons (s_still p10_3_1 hE wn_none rfl (st_fgeq (b := false) rfl rfl (by rw [ge_right hx (by decide) (by decide)]; exact decide_eq_false (fun h => hG h.2))) ?_)
      clear hE a; intro a hE
      refine p_cons (s_still p10_3_2 hE wn_none rfl (st_assign rfl) ?_)
      clear hE a; intro a hE
      refine p_nil ?_
      refine x_norm ?_
      refine c_cond (t := false) hE rfl ?_
      refine wp_skip ?_
      refine x_normB ?_
      refine x_norm ?_
      refine c_reg R10_5_l ?_
      refine p_cons (s_still p10_5_0 hE wn_none rfl (st_move rfl) ?_)
      clear hE a; intro a hE
      refine p_cons (s_still p10_5_1 hE wn_none rfl (st_farith (z := (x + 31525197391593472)) rfl rfl rfl (mul_128 hR_x.1 ⟨by omega, by omega⟩)) ?_)
      clear hE a; intro a hE
      refine p_cons (s_still p10_5_2 hE wn_none rfl (st_ext (v := Value.float .f64 (double.nearest false (rndF x) 0)) (xs := [Operand.tmp 12]) (args := [Value.float .f64 (x + 31525197391593472)]) rfl (fun w => ext_round (read_norm (by have := hR_x.1; omega) (by omega)) (by rw [int_128 hR_x.1 (by omega)]; rfl) w)) ?_)
      clear hE a; intro a hE
      refine p_cons (s_still p10_5_3 hE wn_none rfl (st_f2i (i := (rndF x : Int)) (by kernel_rfl) Try.underlying3 rfl (f2i_rnd hR_x.1 (by omega))) ?_)
      clear hE a; intro a hE
      refine p_cons (s_still p10_5_4 hE wn_none rfl (st_min (z := (if (65535 : Int) < (rndF x : Int) then 65535 else (rndF x : Int))) rfl rfl rfl) ?_)
      clear hE a; intro a hE
      refine p_cons (s_still p10_5_5 hE wn_none rfl (st_assign rfl) ?_)
      clear hE a; intro a hE
      refine p_cons (s_still p10_5_6 hE wn_none rfl (st_assign rfl) ?_)
      clear hE a; intro a hE
      refine p_nil ?_
      refine x_norm ?_
      refine wp_ret ?_
      refine ret_list (rs := [.tmp 2, .tmp 3]) (vs := [Value.int .i64 (if (65535 : Int) < (rndF x : Int) then 65535 else (rndF x : Int)), Value.int .i64 0]) rfl hE (.tmp rfl (.tmp rfl .nil)) rfl ?_
      exact ⟨by rw [← hv, ← he]; unfold costV costE; rw [if_pos hR_x, if_pos hR_x, if_neg hG], K_0⟩
  ·
    refine c_reg R10_0_l ?_
    refine p_cons (s_still p10_0_0 hE wn_none rfl (st_assign rfl) ?_)
    clear hE a; intro a hE
    refine p_cons (s_still p10_0_1 hE wn_none rfl (st_assign rfl) ?_)
    clear hE a; intro a hE
    refine p_nil ?_
    refine x_norm ?_
    refine wp_seq ?_
    refine wp_block ?_
    refine c_reg R10_1_l ?_
    refine p_cons (s_still p10_1_0 hE wn_none rfl (st_move rfl) ?_)
    clear hE a; intro a hE
    refine p_cons (s_call (xs := [Operand.tmp 5]) (args := [Value.float .f64 x]) p10_1_1 hE wn_none rfl rfl Try.func42 cl42 (right_any x (by omega) false (decide_eq_false hR_x) _) ?_)
    rintro e w3 ⟨rfl, hk⟩
    replace K_0 := K_0.then_ hk (fun _ h => h.elim)
    refine ⟨_, rfl, ?_⟩
    clear hE a; intro a hE
    refine p_cons (s_still p10_1_2 hE wn_none rfl (st_not rfl rfl) ?_)
    clear hE a; intro a hE
    refine p_cons (s_still p10_1_3 hE wn_none rfl (st_assign rfl) ?_)
    clear hE a; intro a hE
    refine p_nil ?_
    refine x_norm ?_
    refine c_cond (t := true) hE rfl ?_
    refine c_reg R10_2_l ?_
    refine p_cons (s_still p10_2_0 hE wn_none rfl (st_assign rfl) ?_)
    clear hE a; intro a hE
    refine p_cons (s_still p10_2_1 hE wn_none rfl (st_assign rfl) ?_)
    clear hE a; intro a hE
    refine p_nil ?_
    refine x_norm ?_
    refine wp_ret ?_
    refine x_retB ?_
    refine x_ret ?_
    refine ret_list (rs := [.tmp 2, .tmp 3]) (vs := [Value.int .i64 0, Value.int .i64 1]) rfl hE (.tmp rfl (.tmp rfl .nil)) rfl ?_
    exact ⟨by rw [← hv, ← he]; unfold costV costE; rw [if_neg hR_x, if_neg hR_x], K_0⟩
def betF (a b : Nat) : Prop := right a ∧ (¬ right b ∨ a < b)
instance (a b : Nat) : Decidable (betF a b) := inferInstanceAs (Decidable (_ ∧ _))
theorem R11_0_l : List.range (regOf Try.f11 0).size = [0] := by kernel_rfl
theorem R11_1_l : List.range (regOf Try.f11 1).size = [0, 1, 2, 3, 4, 5, 6, 7, 8, 9, 10, 11, 12] := by kernel_rfl
theorem body11 : Try.f11.body = some (.seq (.region 0 (regOf Try.f11 0) false) (.seq (.region 1 (regOf Try.f11 1) false) (.ret))) := by kernel_rfl
theorem p11_0_0 : pj (regOf Try.f11 0) 0 = some (some 4, Op.assign (Operand.const (Value.bool false)), 4, none) := by kernel_rfl
theorem p11_1_0 : pj (regOf Try.f11 1) 0 = some (some 5, Op.move (Operand.tmp 0), 22, none) := by kernel_rfl
theorem p11_1_1 : pj (regOf Try.f11 1) 1 = some (some 6, Op.call { callee := Callee.value (Operand.func 42), args := #[Operand.tmp 5], argTypes := #[22] }, 4, none) := by kernel_rfl
theorem p11_1_2 : pj (regOf Try.f11 1) 2 = some (some 7, Op.move (Operand.tmp 6), 4, none) := by kernel_rfl
theorem p11_1_3 : pj (regOf Try.f11 1) 3 = some (some 8, Op.move (Operand.tmp 1), 22, some (2, true)) := by kernel_rfl
theorem g11_1_2 : dstOf (regOf Try.f11 1) 2 = some 7 := by kernel_rfl
theorem p11_1_4 : pj (regOf Try.f11 1) 4 = some (some 9, Op.call { callee := Callee.value (Operand.func 42), args := #[Operand.tmp 8], argTypes := #[22] }, 4, some (2, true)) := by kernel_rfl
theorem p11_1_5 : pj (regOf Try.f11 1) 5 = some (some 10, Op.unOp UnOp.not 4 (Operand.tmp 9), 4, some (2, true)) := by kernel_rfl
theorem p11_1_6 : pj (regOf Try.f11 1) 6 = some (some 11, Op.move (Operand.tmp 10), 4, some (2, true)) := by kernel_rfl
theorem p11_1_7 : pj (regOf Try.f11 1) 7 = some (some 12, Op.move (Operand.tmp 0), 22, some (6, false)) := by kernel_rfl
theorem g11_1_6 : dstOf (regOf Try.f11 1) 6 = some 11 := by kernel_rfl
theorem p11_1_8 : pj (regOf Try.f11 1) 8 = some (some 13, Op.move (Operand.tmp 1), 22, some (6, false)) := by kernel_rfl
theorem p11_1_9 : pj (regOf Try.f11 1) 9 = some (some 14, Op.binOp BinOp.lss 22 (Operand.tmp 12) (Operand.tmp 13) 22, 4, some (6, false)) := by kernel_rfl
theorem p11_1_10 : pj (regOf Try.f11 1) 10 = some (some 15, Op.pick (Operand.tmp 11) (Operand.const (Value.bool true)) (Operand.tmp 14), 4, some (2, true)) := by kernel_rfl
theorem p11_1_11 : pj (regOf Try.f11 1) 11 = some (some 16, Op.pick (Operand.tmp 7) (Operand.tmp 15) (Operand.const (Value.bool false)), 4, none) := by kernel_rfl
theorem p11_1_12 : pj (regOf Try.f11 1) 12 = some (some 4, Op.assign (Operand.tmp 16), 4, none) := by kernel_rfl
set_option maxHeartbeats 4000000 in
theorem better_any (x y : Nat) (hx : x < 18446744073709551616) (hy : y < 18446744073709551616) (b : Bool) (hb : decide (betF x y) = b) (w : World) : Calls Try.prog 11 #[.float .f64 x, .float .f64 y] w fun e w' => e = .returned (.bool b) ∧ Kp w w' (fun _ => False) := by
  have K_0 := Kp.refl w (fun _ => False)
  refine enter (args := [Value.float .f64 x, Value.float .f64 y]) (n := 17) Try.func11 body11 rfl rfl rfl ?_
  intro a hE
  refine c_reg R11_0_l ?_
  refine p_cons (s_still p11_0_0 hE wn_none rfl (st_assign rfl) ?_)
  clear hE a; intro a hE
  refine p_nil ?_
  refine x_norm ?_
  rcases Decidable.em (right x) with hR_x | hR_x
  ·
    rcases Decidable.em (right y) with hR_y | hR_y
    ·
      refine c_reg R11_1_l ?_
      refine p_cons (s_still p11_1_0 hE wn_none rfl (st_move rfl) ?_)
      clear hE a; intro a hE
      refine p_cons (s_call (xs := [Operand.tmp 5]) (args := [Value.float .f64 x]) p11_1_1 hE wn_none rfl rfl Try.func42 cl42 (right_any x (by omega) true (decide_eq_true hR_x) _) ?_)
      rintro e w1 ⟨rfl, hk⟩
      replace K_0 := K_0.then_ hk (fun _ h => h.elim)
      refine ⟨_, rfl, ?_⟩
      clear hE a; intro a hE
      refine p_cons (s_still p11_1_2 hE wn_none rfl (st_move rfl) ?_)
      clear hE a; intro a hE
      refine p_cons (s_still p11_1_3 hE (wn_some g11_1_2 rfl rfl) rfl (st_move rfl) ?_)
      clear hE a; intro a hE
      refine p_cons (s_call (xs := [Operand.tmp 8]) (args := [Value.float .f64 y]) p11_1_4 hE (wn_some g11_1_2 rfl rfl) rfl rfl Try.func42 cl42 (right_any y (by omega) true (decide_eq_true hR_y) _) ?_)
      rintro e w2 ⟨rfl, hk⟩
      replace K_0 := K_0.then_ hk (fun _ h => h.elim)
      refine ⟨_, rfl, ?_⟩
      clear hE a; intro a hE
      refine p_cons (s_still p11_1_5 hE (wn_some g11_1_2 rfl rfl) rfl (st_not rfl rfl) ?_)
      clear hE a; intro a hE
      refine p_cons (s_still p11_1_6 hE (wn_some g11_1_2 rfl rfl) rfl (st_move rfl) ?_)
      clear hE a; intro a hE
      refine p_cons (s_still p11_1_7 hE (wn_some g11_1_6 rfl rfl) rfl (st_move rfl) ?_)
      clear hE a; intro a hE
      refine p_cons (s_still p11_1_8 hE (wn_some g11_1_6 rfl rfl) rfl (st_move rfl) ?_)
      clear hE a; intro a hE
      refine p_cons (s_still p11_1_9 hE (wn_some g11_1_6 rfl rfl) rfl (st_flss (b := (decide (x < y))) rfl rfl (lt_right hR_x hR_y)) ?_)
      clear hE a; intro a hE
      refine p_cons (s_still p11_1_10 hE (wn_some g11_1_2 rfl rfl) rfl (st_pick rfl rfl) ?_)
      clear hE a; intro a hE
      refine p_cons (s_still p11_1_11 hE wn_none rfl (st_pick rfl rfl) ?_)
      clear hE a; intro a hE
      refine p_cons (s_still p11_1_12 hE wn_none rfl (st_assign rfl) ?_)
      clear hE a; intro a hE
      refine p_nil ?_
      refine x_norm ?_
      refine wp_ret ?_
      refine ret_one (v := Value.bool (decide (x < y))) rfl hE (.tmp rfl .nil) ?_
      exact ⟨by rw [← hb, show decide (betF x y) = _ from decide_eq_decide.2 ⟨fun h => h.2.resolve_left (fun h2 => h2 hR_y), fun h => ⟨hR_x, .inr h⟩⟩], K_0⟩
    ·
      refine c_reg R11_1_l ?_
      refine p_cons (s_still p11_1_0 hE wn_none rfl (st_move rfl) ?_)
      clear hE a; intro a hE
      refine p_cons (s_call (xs := [Operand.tmp 5]) (args := [Value.float .f64 x]) p11_1_1 hE wn_none rfl rfl Try.func42 cl42 (right_any x (by omega) true (decide_eq_true hR_x) _) ?_)
      rintro e w3 ⟨rfl, hk⟩
      replace K_0 := K_0.then_ hk (fun _ h => h.elim)
      refine ⟨_, rfl, ?_⟩
      clear hE a; intro a hE
      refine p_cons (s_still p11_1_2 hE wn_none rfl (st_move rfl) ?_)
      clear hE a; intro a hE
      refine p_cons (s_still p11_1_3 hE (wn_some g11_1_2 rfl rfl) rfl (st_move rfl) ?_)
      clear hE a; intro a hE
      refine p_cons (s_call (xs := [Operand.tmp 8]) (args := [Value.float .f64 y]) p11_1_4 hE (wn_some g11_1_2 rfl rfl) rfl rfl Try.func42 cl42 (right_any y (by omega) false (decide_eq_false hR_y) _) ?_)
      rintro e w4 ⟨rfl, hk⟩
      replace K_0 := K_0.then_ hk (fun _ h => h.elim)
      refine ⟨_, rfl, ?_⟩
      clear hE a; intro a hE
      refine p_cons (s_still p11_1_5 hE (wn_some g11_1_2 rfl rfl) rfl (st_not rfl rfl) ?_)
      clear hE a; intro a hE
      refine p_cons (s_still p11_1_6 hE (wn_some g11_1_2 rfl rfl) rfl (st_move rfl) ?_)
      clear hE a; intro a hE
      refine p_cons (s_skip p11_1_7 hE (wn_some g11_1_6 rfl rfl) rfl ?_)
      clear hE a; intro a hE
      refine p_cons (s_skip p11_1_8 hE (wn_some g11_1_6 rfl rfl) rfl ?_)
      clear hE a; intro a hE
      refine p_cons (s_skip p11_1_9 hE (wn_some g11_1_6 rfl rfl) rfl ?_)
      clear hE a; intro a hE
      refine p_cons (s_still p11_1_10 hE (wn_some g11_1_2 rfl rfl) rfl (st_pick rfl rfl) ?_)
      clear hE a; intro a hE
      refine p_cons (s_still p11_1_11 hE wn_none rfl (st_pick rfl rfl) ?_)
      clear hE a; intro a hE
      refine p_cons (s_still p11_1_12 hE wn_none rfl (st_assign rfl) ?_)
      clear hE a; intro a hE
      refine p_nil ?_
      refine x_norm ?_
      refine wp_ret ?_
      refine ret_one (v := Value.bool true) rfl hE (.tmp rfl .nil) ?_
      exact ⟨by rw [← hb, show decide (betF x y) = _ from decide_eq_true ⟨hR_x, .inl hR_y⟩], K_0⟩
  ·
    rcases Decidable.em (right y) with hR_y | hR_y
    ·
      refine c_reg R11_1_l ?_
      refine p_cons (s_still p11_1_0 hE wn_none rfl (st_move rfl) ?_)
      clear hE a; intro a hE
      refine p_cons (s_call (xs := [Operand.tmp 5]) (args := [Value.float .f64 x]) p11_1_1 hE wn_none rfl rfl Try.func42 cl42 (right_any x (by omega) false (decide_eq_false hR_x) _) ?_)
      rintro e w5 ⟨rfl, hk⟩
      replace K_0 := K_0.then_ hk (fun _ h => h.elim)
      refine ⟨_, rfl, ?_⟩
      clear hE a; intro a hE
      refine p_cons (s_still p11_1_2 hE wn_none rfl (st_move rfl) ?_)
      clear hE a; intro a hE
      refine p_cons (s_skip p11_1_3 hE (wn_some g11_1_2 rfl rfl) rfl ?_)
      clear hE a; intro a hE
      refine p_cons (s_skip p11_1_4 hE (wn_some g11_1_2 rfl rfl) rfl ?_)
      clear hE a; intro a hE
      refine p_cons (s_skip p11_1_5 hE (wn_some g11_1_2 rfl rfl) rfl ?_)
      clear hE a; intro a hE
      refine p_cons (s_skip p11_1_6 hE (wn_some g11_1_2 rfl rfl) rfl ?_)
      clear hE a; intro a hE
      refine p_cons (s_skip p11_1_7 hE (wn_undef g11_1_6 rfl) rfl ?_)
      clear hE a; intro a hE
      refine p_cons (s_skip p11_1_8 hE (wn_undef g11_1_6 rfl) rfl ?_)
      clear hE a; intro a hE
      refine p_cons (s_skip p11_1_9 hE (wn_undef g11_1_6 rfl) rfl ?_)
      clear hE a; intro a hE
      refine p_cons (s_skip p11_1_10 hE (wn_some g11_1_2 rfl rfl) rfl ?_)
      clear hE a; intro a hE
      refine p_cons (s_still p11_1_11 hE wn_none rfl (st_pick rfl rfl) ?_)
      clear hE a; intro a hE
      refine p_cons (s_still p11_1_12 hE wn_none rfl (st_assign rfl) ?_)
      clear hE a; intro a hE
      refine p_nil ?_
      refine x_norm ?_
      refine wp_ret ?_
      refine ret_one (v := Value.bool false) rfl hE (.tmp rfl .nil) ?_
      exact ⟨by rw [← hb, show decide (betF x y) = _ from decide_eq_false (fun h => hR_x h.1)], K_0⟩
    ·
      refine c_reg R11_1_l ?_
      refine p_cons (s_still p11_1_0 hE wn_none rfl (st_move rfl) ?_)
      clear hE a; intro a hE
      refine p_cons (s_call (xs := [Operand.tmp 5]) (args := [Value.float .f64 x]) p11_1_1 hE wn_none rfl rfl Try.func42 cl42 (right_any x (by omega) false (decide_eq_false hR_x) _) ?_)
      rintro e w6 ⟨rfl, hk⟩
      replace K_0 := K_0.then_ hk (fun _ h => h.elim)
      refine ⟨_, rfl, ?_⟩
      clear hE a; intro a hE
      refine p_cons (s_still p11_1_2 hE wn_none rfl (st_move rfl) ?_)
      clear hE a; intro a hE
      refine p_cons (s_skip p11_1_3 hE (wn_some g11_1_2 rfl rfl) rfl ?_)
      clear hE a; intro a hE
      refine p_cons (s_skip p11_1_4 hE (wn_some g11_1_2 rfl rfl) rfl ?_)
      clear hE a; intro a hE
      refine p_cons (s_skip p11_1_5 hE (wn_some g11_1_2 rfl rfl) rfl ?_)
      clear hE a; intro a hE
      refine p_cons (s_skip p11_1_6 hE (wn_some g11_1_2 rfl rfl) rfl ?_)
      clear hE a; intro a hE
      refine p_cons (s_skip p11_1_7 hE (wn_undef g11_1_6 rfl) rfl ?_)
      clear hE a; intro a hE
      refine p_cons (s_skip p11_1_8 hE (wn_undef g11_1_6 rfl) rfl ?_)
      clear hE a; intro a hE
      refine p_cons (s_skip p11_1_9 hE (wn_undef g11_1_6 rfl) rfl ?_)
      clear hE a; intro a hE
      refine p_cons (s_skip p11_1_10 hE (wn_some g11_1_2 rfl rfl) rfl ?_)
      clear hE a; intro a hE
      refine p_cons (s_still p11_1_11 hE wn_none rfl (st_pick rfl rfl) ?_)
      clear hE a; intro a hE
      refine p_cons (s_still p11_1_12 hE wn_none rfl (st_assign rfl) ?_)
      clear hE a; intro a hE
      refine p_nil ?_
      refine x_norm ?_
      refine wp_ret ?_
      refine ret_one (v := Value.bool false) rfl hE (.tmp rfl .nil) ?_
      exact ⟨by rw [← hb, show decide (betF x y) = _ from decide_eq_false (fun h => hR_x h.1)], K_0⟩
theorem R44_0_l : List.range (regOf Try.f44 0).size = [0] := by kernel_rfl
theorem R44_1_l : List.range (regOf Try.f44 1).size = [0, 1] := by kernel_rfl
theorem body44 : Try.f44.body = some (.seq (.region 0 (regOf Try.f44 0) false) (.seq (.region 1 (regOf Try.f44 1) false) (.ret))) := by kernel_rfl
theorem p44_0_0 : pj (regOf Try.f44 0) 0 = some (some 0, Op.assign (Operand.const (Value.float FloatKind.f64 0)), 22, none) := by kernel_rfl
theorem p44_1_0 : pj (regOf Try.f44 1) 0 = some (some 1, Op.call { callee := Callee.value (Operand.func 60), args := #[Operand.const (Value.int IntKind.u64 9221120237041090561)], argTypes := #[44] }, 22, none) := by kernel_rfl
theorem p44_1_1 : pj (regOf Try.f44 1) 1 = some (some 0, Op.assign (Operand.tmp 1), 22, none) := by kernel_rfl
set_option maxHeartbeats 4000000 in
theorem nan_any (w : World) : Calls Try.prog 44 #[] w fun e w' => e = .returned (.float .f64 9221120237041090561) ∧ Kp w w' (fun _ => False) := by
  have K_0 := Kp.refl w (fun _ => False)
  refine enter (args := []) (n := 2) Try.func44 body44 rfl rfl rfl ?_
  intro a hE
  refine c_reg R44_0_l ?_
  refine p_cons (s_still p44_0_0 hE wn_none rfl (st_assign rfl) ?_)
  clear hE a; intro a hE
  refine p_nil ?_
  refine x_norm ?_
  refine c_reg R44_1_l ?_
  refine p_cons (s_still p44_1_0 hE wn_none rfl (st_ext (v := Value.float .f64 9221120237041090561) (xs := [Operand.const (Value.int IntKind.u64 9221120237041090561)]) (args := [Value.int .u64 9221120237041090561]) rfl (ext_from 9221120237041090561)) ?_)
  clear hE a; intro a hE
  refine p_cons (s_still p44_1_1 hE wn_none rfl (st_assign rfl) ?_)
  clear hE a; intro a hE
  refine p_nil ?_
  refine x_norm ?_
  refine wp_ret ?_
  refine ret_one (v := Value.float .f64 9221120237041090561) rfl hE (.tmp rfl .nil) ?_
  exact ⟨rfl, K_0⟩
theorem R45_0_l : List.range (regOf Try.f45 0).size = [0] := by kernel_rfl
theorem R45_1_l : List.range (regOf Try.f45 1).size = [0] := by kernel_rfl
theorem R45_2_l : List.range (regOf Try.f45 2).size = [0, 1] := by kernel_rfl
theorem R45_3_l : List.range (regOf Try.f45 3).size = [0] := by kernel_rfl
theorem R45_4_l : List.range (regOf Try.f45 4).size = [0] := by kernel_rfl
theorem R45_5_l : List.range (regOf Try.f45 5).size = [0, 1, 2] := by kernel_rfl
theorem body45 : Try.f45.body = some (.seq (.region 0 (regOf Try.f45 0) false) (.seq (.region 1 (regOf Try.f45 1) false) (.seq (.seq (.region 2 (regOf Try.f45 2) false) (.cond (Operand.tmp 5) (.region 3 (regOf Try.f45 3) false) (.region 4 (regOf Try.f45 4) false))) (.seq (.region 5 (regOf Try.f45 5) false) (.ret))))) := by kernel_rfl
theorem p45_0_0 : pj (regOf Try.f45 0) 0 = some (some 2, Op.assign (Operand.const (Value.float FloatKind.f64 0)), 22, none) := by kernel_rfl
theorem p45_1_0 : pj (regOf Try.f45 1) 0 = some (some 3, Op.assign (Operand.const (Value.int IntKind.u64 0)), 44, none) := by kernel_rfl
theorem p45_2_0 : pj (regOf Try.f45 2) 0 = some (some 4, Op.move (Operand.tmp 0), 3, none) := by kernel_rfl
theorem p45_2_1 : pj (regOf Try.f45 2) 1 = some (some 5, Op.binOp BinOp.geq 3 (Operand.tmp 4) (Operand.const (Value.int IntKind.i64 0)) 3, 4, none) := by kernel_rfl
theorem p45_3_0 : pj (regOf Try.f45 3) 0 = some (some 3, Op.assign (Operand.const (Value.int IntKind.u64 9218868437227405312)), 44, none) := by kernel_rfl
theorem p45_5_0 : pj (regOf Try.f45 5) 0 = some (some 6, Op.move (Operand.tmp 3), 44, none) := by kernel_rfl
theorem p45_5_1 : pj (regOf Try.f45 5) 1 = some (some 7, Op.call { callee := Callee.value (Operand.func 60), args := #[Operand.tmp 6], argTypes := #[44] }, 22, none) := by kernel_rfl
theorem p45_5_2 : pj (regOf Try.f45 5) 2 = some (some 2, Op.assign (Operand.tmp 7), 22, none) := by kernel_rfl
set_option maxHeartbeats 4000000 in
theorem inf_any (w : World) : Calls Try.prog 45 #[.int .i64 1] w fun e w' => e = .returned (.float .f64 9218868437227405312) ∧ Kp w w' (fun _ => False) := by
  have K_0 := Kp.refl w (fun _ => False)
  refine enter (args := [Value.int .i64 1]) (n := 8) Try.func45 body45 rfl rfl rfl ?_
  intro a hE
  refine c_reg R45_0_l ?_
  refine p_cons (s_still p45_0_0 hE wn_none rfl (st_assign rfl) ?_)
  clear hE a; intro a hE
  refine p_nil ?_
  refine x_norm ?_
  refine c_reg R45_1_l ?_
  refine p_cons (s_still p45_1_0 hE wn_none rfl (st_assign rfl) ?_)
  clear hE a; intro a hE
  refine p_nil ?_
  refine x_norm ?_
  refine wp_seq ?_
  refine c_reg R45_2_l ?_
  refine p_cons (s_still p45_2_0 hE wn_none rfl (st_move rfl) ?_)
  clear hE a; intro a hE
  refine p_cons (s_still p45_2_1 hE wn_none rfl (st_geq (b := true) rfl rfl (by decide)) ?_)
  clear hE a; intro a hE
  refine p_nil ?_
  refine x_norm ?_
  refine c_cond (t := true) hE rfl ?_
  refine c_regL R45_3_l ?_
  refine p_cons (s_still p45_3_0 hE wn_none rfl (st_assign rfl) ?_)
  clear hE a; intro a hE
  refine p_nil ?_
  refine x_norm ?_
  refine c_reg R45_5_l ?_
  refine p_cons (s_still p45_5_0 hE wn_none rfl (st_move rfl) ?_)
  clear hE a; intro a hE
  refine p_cons (s_still p45_5_1 hE wn_none rfl (st_ext (v := Value.float .f64 9218868437227405312) (xs := [Operand.tmp 6]) (args := [Value.int .u64 9218868437227405312]) rfl (ext_from 9218868437227405312)) ?_)
  clear hE a; intro a hE
  refine p_cons (s_still p45_5_2 hE wn_none rfl (st_assign rfl) ?_)
  clear hE a; intro a hE
  refine p_nil ?_
  refine x_norm ?_
  refine wp_ret ?_
  refine ret_one (v := Value.float .f64 9218868437227405312) rfl hE (.tmp rfl .nil) ?_
  exact ⟨rfl, K_0⟩
theorem R61_0_l : List.range (regOf Try.f61 0).size = [0, 1, 2, 3] := by kernel_rfl
theorem R61_1_l : List.range (regOf Try.f61 1).size = [0, 1, 2, 3, 4, 5, 6, 7, 8] := by kernel_rfl
theorem R61_2_l : List.range (regOf Try.f61 2).size = [0, 1, 2, 3, 4, 5, 6, 7, 8] := by kernel_rfl
theorem body61 : Try.f61.body = some (.seq (.seq (.region 0 (regOf Try.f61 0) false) (.cond (Operand.tmp 7) (.region 1 (regOf Try.f61 1) false) (.skip))) (.region 2 (regOf Try.f61 2) false)) := by kernel_rfl
theorem p61_0_0 : pj (regOf Try.f61 0) 0 = some (some 4, Op.move (Operand.tmp 0), 95, none) := by kernel_rfl
theorem p61_0_1 : pj (regOf Try.f61 0) 1 = some (some 5, Op.nilCheck (Operand.tmp 4), 0, none) := by kernel_rfl
theorem p61_0_2 : pj (regOf Try.f61 0) 2 = some (some 6, Op.fieldAddr 36 (Operand.tmp 5) 1, 0, none) := by kernel_rfl
theorem tS4 : (Try.prog.info? 4).map (·.size) = some 1 := by kernel_rfl
theorem p61_0_3 : pj (regOf Try.f61 0) 3 = some (some 7, Op.load 4 (Operand.tmp 6), 4, none) := by kernel_rfl
theorem tA4 : (Try.prog.underlying 4).map aggD = some false := by kernel_rfl
theorem p61_1_0 : pj (regOf Try.f61 1) 0 = some (some 8, Op.move (Operand.tmp 0), 95, none) := by kernel_rfl
theorem p61_1_1 : pj (regOf Try.f61 1) 1 = some (some 9, Op.nilCheck (Operand.tmp 8), 0, none) := by kernel_rfl
theorem p61_1_2 : pj (regOf Try.f61 1) 2 = some (some 10, Op.fieldAddr 36 (Operand.tmp 9) 0, 0, none) := by kernel_rfl
theorem tS22 : (Try.prog.info? 22).map (·.size) = some 1 := by kernel_rfl
theorem p61_1_3 : pj (regOf Try.f61 1) 3 = some (some 11, Op.load 22 (Operand.tmp 10), 22, none) := by kernel_rfl
theorem tA22 : (Try.prog.underlying 22).map aggD = some false := by kernel_rfl
theorem p61_1_4 : pj (regOf Try.f61 1) 4 = some (some 12, Op.binOp BinOp.mul 22 (Operand.tmp 11) (Operand.const (Value.float FloatKind.f64 4619567317775286272)) 22, 22, none) := by kernel_rfl
theorem p61_1_5 : pj (regOf Try.f61 1) 5 = some (some 13, Op.move (Operand.tmp 1), 22, none) := by kernel_rfl
theorem p61_1_6 : pj (regOf Try.f61 1) 6 = some (some 14, Op.binOp BinOp.add 22 (Operand.tmp 12) (Operand.tmp 13) 22, 22, none) := by kernel_rfl
theorem p61_1_7 : pj (regOf Try.f61 1) 7 = some (some 15, Op.binOp BinOp.quo 22 (Operand.tmp 14) (Operand.const (Value.float FloatKind.f64 4620693217682128896)) 22, 22, none) := by kernel_rfl
theorem p61_1_8 : pj (regOf Try.f61 1) 8 = some (some 1, Op.assign (Operand.tmp 15), 22, none) := by kernel_rfl
theorem p61_2_0 : pj (regOf Try.f61 2) 0 = some (some 16, Op.move (Operand.tmp 0), 95, none) := by kernel_rfl
theorem p61_2_1 : pj (regOf Try.f61 2) 1 = some (some 17, Op.move (Operand.tmp 0), 95, none) := by kernel_rfl
theorem p61_2_2 : pj (regOf Try.f61 2) 2 = some (some 18, Op.move (Operand.tmp 1), 22, none) := by kernel_rfl
theorem p61_2_3 : pj (regOf Try.f61 2) 3 = some (some 19, Op.nilCheck (Operand.tmp 16), 0, none) := by kernel_rfl
theorem p61_2_4 : pj (regOf Try.f61 2) 4 = some (some 20, Op.fieldAddr 36 (Operand.tmp 19) 0, 0, none) := by kernel_rfl
theorem p61_2_5 : pj (regOf Try.f61 2) 5 = some (none, Op.store 22 (Operand.tmp 20) (Operand.tmp 18), 0, none) := by kernel_rfl
theorem p61_2_6 : pj (regOf Try.f61 2) 6 = some (some 21, Op.nilCheck (Operand.tmp 17), 0, none) := by kernel_rfl
theorem p61_2_7 : pj (regOf Try.f61 2) 7 = some (some 22, Op.fieldAddr 36 (Operand.tmp 21) 1, 0, none) := by kernel_rfl
theorem p61_2_8 : pj (regOf Try.f61 2) 8 = some (none, Op.store 4 (Operand.tmp 22) (Operand.const (Value.bool true)), 0, none) := by kernel_rfl
set_option maxHeartbeats 4000000 in
theorem move_any (b m n : Nat) (is : Bool) (s : Int) (hm : is = true → right m) (h1 : 1 ≤ n) (h2 : n ≤ 16) (w : World) (hb : w.heap[b]? = some (.cells #[.float .f64 m, .bool is, .int .i64 s] 38 (0, 0))) : Calls Try.prog 61 #[.pointer (some ⟨b, 0, none⟩), .float .f64 (fl n)] w fun e w' => e = .returned (.tuple #[]) ∧ w'.heap[b]? = some (.cells #[.float .f64 (moveF is m n), .bool true, .int .i64 s] 38 (0, 0)) ∧ Kp w w' (fun k => k = b) := by
  have K_0 := Kp.refl w (fun k => k = b)
  have B_b := hb
  refine enter (args := [Value.pointer (some ⟨b, 0, none⟩), Value.float .f64 (fl n)]) (n := 23) Try.func61 body61 rfl rfl rfl ?_
  intro a hE
  refine wp_seq ?_
  rcases Decidable.em (is = true) with hIS | hIS
  ·
    obtain rfl : is = true := hIS
    obtain ⟨r1, r2, r3, hr1, hr2, hr3, hr4⟩ := move_ok (hm rfl) h1 h2
    refine c_reg R61_0_l ?_
    refine p_cons (s_still p61_0_0 hE wn_none rfl (st_move rfl) ?_)
    clear hE a; intro a hE
    refine p_cons (s_still p61_0_1 hE wn_none rfl (st_nil rfl) ?_)
    clear hE a; intro a hE
    refine p_cons (s_still p61_0_2 hE wn_none rfl (st_fieldAddr Try.underlying36 rfl tS4 rfl rfl) ?_)
    clear hE a; intro a hE
    refine p_cons (s_still p61_0_3 hE wn_none rfl (st_load1 tA4 rfl ((blk_cell B_b 1).trans rfl)) ?_)
    clear hE a; intro a hE
    refine p_nil ?_
    refine x_norm ?_
    refine c_cond (t := true) hE rfl ?_
    refine c_regL R61_1_l ?_
    refine p_cons (s_still p61_1_0 hE wn_none rfl (st_move rfl) ?_)
    clear hE a; intro a hE
    refine p_cons (s_still p61_1_1 hE wn_none rfl (st_nil rfl) ?_)
    clear hE a; intro a hE
    refine p_cons (s_still p61_1_2 hE wn_none rfl (st_fieldAddr Try.underlying36 rfl tS22 rfl rfl) ?_)
    clear hE a; intro a hE
    refine p_cons (s_still p61_1_3 hE wn_none rfl (st_load1 tA22 rfl ((blk_cell B_b 0).trans rfl)) ?_)
    clear hE a; intro a hE
    refine p_cons (s_still p61_1_4 hE wn_none rfl (st_farith (z := r1) rfl rfl rfl hr1) ?_)
    clear hE a; intro a hE
    refine p_cons (s_still p61_1_5 hE wn_none rfl (st_move rfl) ?_)
    clear hE a; intro a hE
    refine p_cons (s_still p61_1_6 hE wn_none rfl (st_farith (z := r2) rfl rfl rfl hr2) ?_)
    clear hE a; intro a hE
    refine p_cons (s_still p61_1_7 hE wn_none rfl (st_farith (z := r3) rfl rfl rfl hr3) ?_)
    clear hE a; intro a hE
    refine p_cons (s_still p61_1_8 hE wn_none rfl (st_assign rfl) ?_)
    clear hE a; intro a hE
    refine p_nil ?_
    refine x_norm ?_
    refine c_regL R61_2_l ?_
    refine p_cons (s_still p61_2_0 hE wn_none rfl (st_move rfl) ?_)
    clear hE a; intro a hE
    refine p_cons (s_still p61_2_1 hE wn_none rfl (st_move rfl) ?_)
    clear hE a; intro a hE
    refine p_cons (s_still p61_2_2 hE wn_none rfl (st_move rfl) ?_)
    clear hE a; intro a hE
    refine p_cons (s_still p61_2_3 hE wn_none rfl (st_nil rfl) ?_)
    clear hE a; intro a hE
    refine p_cons (s_still p61_2_4 hE wn_none rfl (st_fieldAddr Try.underlying36 rfl tS22 rfl rfl) ?_)
    clear hE a; intro a hE
    refine p_cons (s_store (off := 0) (k := 1) (cs' := #[Value.float .f64 r3, Value.bool true, Value.int .i64 s]) p61_2_5 hE wn_none tS22 rfl rfl rfl rfl B_b (Nat.le_of_ble_eq_true rfl) rfl ?_)
    intro w1 B_b' hk
    replace K_0 := K_0.then_ hk (fun k h => by rw [show k = b from h]; exact Or.inl rfl)
    replace B_b := B_b'
    clear hk
    refine p_cons (s_still p61_2_6 hE wn_none rfl (st_nil rfl) ?_)
    clear hE a; intro a hE
    refine p_cons (s_still p61_2_7 hE wn_none rfl (st_fieldAddr Try.underlying36 rfl tS4 rfl rfl) ?_)
    clear hE a; intro a hE
    refine p_cons (s_store (off := 1) (k := 1) (cs' := #[Value.float .f64 r3, Value.bool true, Value.int .i64 s]) p61_2_8 hE wn_none tS4 rfl rfl rfl rfl B_b (Nat.le_of_ble_eq_true rfl) rfl ?_)
    intro w2 B_b' hk
    replace K_0 := K_0.then_ hk (fun k h => by rw [show k = b from h]; exact Or.inl rfl)
    replace B_b := B_b'
    clear hk
    refine p_nil ?_
    refine end_of_ret ?_
    refine ret_list (rs := []) (vs := []) rfl hE .nil rfl ?_
    exact ⟨rfl, by rw [moveF_yes hr1 hr2 hr3]; exact B_b, K_0⟩
  ·
    obtain rfl : is = false := by simpa using hIS
    refine c_reg R61_0_l ?_
    refine p_cons (s_still p61_0_0 hE wn_none rfl (st_move rfl) ?_)
    clear hE a; intro a hE
    refine p_cons (s_still p61_0_1 hE wn_none rfl (st_nil rfl) ?_)
    clear hE a; intro a hE
    refine p_cons (s_still p61_0_2 hE wn_none rfl (st_fieldAddr Try.underlying36 rfl tS4 rfl rfl) ?_)
    clear hE a; intro a hE
    refine p_cons (s_still p61_0_3 hE wn_none rfl (st_load1 tA4 rfl ((blk_cell B_b 1).trans rfl)) ?_)
    clear hE a; intro a hE
    refine p_nil ?_
    refine x_norm ?_
    refine c_cond (t := false) hE rfl ?_
    refine wp_skip ?_
    refine x_norm ?_
    refine c_regL R61_2_l ?_
    refine p_cons (s_still p61_2_0 hE wn_none rfl (st_move rfl) ?_)
    clear hE a; intro a hE
    refine p_cons (s_still p61_2_1 hE wn_none rfl (st_move rfl) ?_)
    clear hE a; intro a hE
    refine p_cons (s_still p61_2_2 hE wn_none rfl (st_move rfl) ?_)
    clear hE a; intro a hE
    refine p_cons (s_still p61_2_3 hE wn_none rfl (st_nil rfl) ?_)
    clear hE a; intro a hE
    refine p_cons (s_still p61_2_4 hE wn_none rfl (st_fieldAddr Try.underlying36 rfl tS22 rfl rfl) ?_)
    clear hE a; intro a hE
    refine p_cons (s_store (off := 0) (k := 1) (cs' := #[Value.float .f64 (fl n), Value.bool false, Value.int .i64 s]) p61_2_5 hE wn_none tS22 rfl rfl rfl rfl B_b (Nat.le_of_ble_eq_true rfl) rfl ?_)
    intro w3 B_b' hk
    replace K_0 := K_0.then_ hk (fun k h => by rw [show k = b from h]; exact Or.inl rfl)
    replace B_b := B_b'
    clear hk
    refine p_cons (s_still p61_2_6 hE wn_none rfl (st_nil rfl) ?_)
    clear hE a; intro a hE
    refine p_cons (s_still p61_2_7 hE wn_none rfl (st_fieldAddr Try.underlying36 rfl tS4 rfl rfl) ?_)
    clear hE a; intro a hE
    refine p_cons (s_store (off := 1) (k := 1) (cs' := #[Value.float .f64 (fl n), Value.bool true, Value.int .i64 s]) p61_2_8 hE wn_none tS4 rfl rfl rfl rfl B_b (Nat.le_of_ble_eq_true rfl) rfl ?_)
    intro w4 B_b' hk
    replace K_0 := K_0.then_ hk (fun k h => by rw [show k = b from h]; exact Or.inl rfl)
    replace B_b := B_b'
    clear hk
    refine p_nil ?_
    refine end_of_ret ?_
    refine ret_list (rs := []) (vs := []) rfl hE .nil rfl ?_
    exact ⟨rfl, by rw [moveF_no]; exact B_b, K_0⟩
theorem R47_0_l : List.range (regOf Try.f47 0).size = [0, 1, 2, 3, 4, 5] := by kernel_rfl
theorem R47_1_l : List.range (regOf Try.f47 1).size = [0, 1, 2, 3, 4, 5, 6, 7, 8, 9, 10] := by kernel_rfl
theorem body47 : Try.f47.body = some (.seq (.region 0 (regOf Try.f47 0) false) (.region 1 (regOf Try.f47 1) false)) := by kernel_rfl
theorem p47_0_0 : pj (regOf Try.f47 0) 0 = some (some 4, Op.move (Operand.tmp 0), 34, none) := by kernel_rfl
theorem p47_0_1 : pj (regOf Try.f47 0) 1 = some (some 5, Op.nilCheck (Operand.tmp 4), 0, none) := by kernel_rfl
theorem p47_0_2 : pj (regOf Try.f47 0) 2 = some (some 6, Op.fieldAddr 38 (Operand.tmp 5) 0, 0, none) := by kernel_rfl
theorem tS36 : (Try.prog.info? 36).map (·.size) = some 2 := by kernel_rfl
theorem p47_0_3 : pj (regOf Try.f47 0) 3 = some (some 7, Op.move (Operand.tmp 1), 3, none) := by kernel_rfl
theorem p47_0_4 : pj (regOf Try.f47 0) 4 = some (some 8, Op.convert 3 22 (Operand.tmp 7), 22, none) := by kernel_rfl
theorem p47_0_5 : pj (regOf Try.f47 0) 5 = some (some 9, Op.call { callee := Callee.value (Operand.func 61), args := #[Operand.tmp 6, Operand.tmp 8], argTypes := #[36, 22] }, 0, none) := by kernel_rfl
theorem cl61 : callable Try.f61 = true := by kernel_rfl
theorem p47_1_0 : pj (regOf Try.f47 1) 0 = some (some 10, Op.move (Operand.tmp 0), 34, none) := by kernel_rfl
theorem p47_1_1 : pj (regOf Try.f47 1) 1 = some (some 11, Op.move (Operand.tmp 0), 34, none) := by kernel_rfl
theorem p47_1_2 : pj (regOf Try.f47 1) 2 = some (some 12, Op.nilCheck (Operand.tmp 11), 0, none) := by kernel_rfl
theorem p47_1_3 : pj (regOf Try.f47 1) 3 = some (some 13, Op.fieldAddr 38 (Operand.tmp 12) 1, 0, none) := by kernel_rfl
theorem tS3 : (Try.prog.info? 3).map (·.size) = some 1 := by kernel_rfl
theorem p47_1_4 : pj (regOf Try.f47 1) 4 = some (some 14, Op.load 3 (Operand.tmp 13), 3, none) := by kernel_rfl
theorem tA3 : (Try.prog.underlying 3).map aggD = some false := by kernel_rfl
theorem p47_1_5 : pj (regOf Try.f47 1) 5 = some (some 15, Op.move (Operand.tmp 1), 3, none) := by kernel_rfl
theorem p47_1_6 : pj (regOf Try.f47 1) 6 = some (some 16, Op.binOp BinOp.add 3 (Operand.tmp 14) (Operand.tmp 15) 3, 3, none) := by kernel_rfl
theorem p47_1_7 : pj (regOf Try.f47 1) 7 = some (some 17, Op.call { callee := Callee.builtin Builtin.min, args := #[Operand.tmp 16, Operand.const (Value.int IntKind.i64 1099511627776)], argTypes := #[3, 3] }, 3, none) := by kernel_rfl
theorem p47_1_8 : pj (regOf Try.f47 1) 8 = some (some 18, Op.nilCheck (Operand.tmp 10), 0, none) := by kernel_rfl
theorem p47_1_9 : pj (regOf Try.f47 1) 9 = some (some 19, Op.fieldAddr 38 (Operand.tmp 18) 1, 0, none) := by kernel_rfl
theorem p47_1_10 : pj (regOf Try.f47 1) 10 = some (none, Op.store 3 (Operand.tmp 19) (Operand.tmp 17), 0, none) := by kernel_rfl
set_option maxHeartbeats 4000000 in
theorem sample_any (b m n : Nat) (is : Bool) (s : Int) (hm : is = true → right m) (h1 : 1 ≤ n) (h2 : n ≤ 16) (hs : 0 ≤ s ∧ s ≤ 1099511627776) (w : World) (hb : w.heap[b]? = some (.cells #[.float .f64 m, .bool is, .int .i64 s] 38 (0, 0))) : Calls Try.prog 47 #[.pointer (some ⟨b, 0, none⟩), .int .i64 (n : Int)] w fun e w' => e = .returned (.tuple #[]) ∧ w'.heap[b]? = some (.cells #[.float .f64 (moveF is m n), .bool true, .int .i64 (senF s (n : Int))] 38 (0, 0)) ∧ Kp w w' (fun k => k = b) := by
  have K_0 := Kp.refl w (fun k => k = b)
  have B_b := hb
  refine enter (args := [Value.pointer (some ⟨b, 0, none⟩), Value.int .i64 (n : Int)]) (n := 20) Try.func47 body47 rfl rfl rfl ?_
  intro a hE
  refine c_reg R47_0_l ?_
  refine p_cons (s_still p47_0_0 hE wn_none rfl (st_move rfl) ?_)
  clear hE a; intro a hE
  refine p_cons (s_still p47_0_1 hE wn_none rfl (st_nil rfl) ?_)
  clear hE a; intro a hE
  refine p_cons (s_still p47_0_2 hE wn_none rfl (st_fieldAddr Try.underlying38 rfl tS36 rfl rfl) ?_)
  clear hE a; intro a hE
  refine p_cons (s_still p47_0_3 hE wn_none rfl (st_move rfl) ?_)
  clear hE a; intro a hE
  refine p_cons (s_still p47_0_4 hE wn_none rfl (st_i2f (z := (fl n)) (by kernel_rfl) Try.underlying22 rfl (i2f_nat _)) ?_)
  clear hE a; intro a hE
  refine p_cons (s_call (xs := [Operand.tmp 6, Operand.tmp 8]) (args := [Value.pointer (some ⟨b, 0, none⟩), Value.float .f64 (fl n)]) p47_0_5 hE wn_none rfl rfl Try.func61 cl61 (move_any b m n is s hm h1 h2 _ B_b) ?_)
  rintro e w1 ⟨rfl, B_b', hk⟩
  replace K_0 := K_0.then_ hk (fun k h => by rw [show k = b from h]; exact Or.inl rfl)
  replace B_b : w1.heap[b]? = some (.cells #[Value.float .f64 (moveF is m n), Value.bool true, Value.int .i64 s] 38 (0, 0)) := B_b'
  clear B_b'
  refine ⟨_, rfl, ?_⟩
  clear hE a; intro a hE
  refine p_nil ?_
  refine x_norm ?_
  refine c_regL R47_1_l ?_
  refine p_cons (s_still p47_1_0 hE wn_none rfl (st_move rfl) ?_)
  clear hE a; intro a hE
  refine p_cons (s_still p47_1_1 hE wn_none rfl (st_move rfl) ?_)
  clear hE a; intro a hE
  refine p_cons (s_still p47_1_2 hE wn_none rfl (st_nil rfl) ?_)
  clear hE a; intro a hE
  refine p_cons (s_still p47_1_3 hE wn_none rfl (st_fieldAddr Try.underlying38 rfl tS3 rfl rfl) ?_)
  clear hE a; intro a hE
  refine p_cons (s_still p47_1_4 hE wn_none rfl (st_load1 tA3 rfl ((blk_cell B_b 2).trans rfl)) ?_)
  clear hE a; intro a hE
  refine p_cons (s_still p47_1_5 hE wn_none rfl (st_move rfl) ?_)
  clear hE a; intro a hE
  refine p_cons (s_still p47_1_6 hE wn_none rfl (st_add (z := s + (n : Int)) rfl rfl (wr_i64 _ (by omega) (by omega))) ?_)
  clear hE a; intro a hE
  refine p_cons (s_still p47_1_7 hE wn_none rfl (st_min (z := (senF s (n : Int))) rfl rfl rfl) ?_)
  clear hE a; intro a hE
  refine p_cons (s_still p47_1_8 hE wn_none rfl (st_nil rfl) ?_)
  clear hE a; intro a hE
  refine p_cons (s_still p47_1_9 hE wn_none rfl (st_fieldAddr Try.underlying38 rfl tS3 rfl rfl) ?_)
  clear hE a; intro a hE
  refine p_cons (s_store (off := 2) (k := 1) (cs' := #[Value.float .f64 (moveF is m n), Value.bool true, Value.int .i64 (senF s (n : Int))]) p47_1_10 hE wn_none tS3 rfl rfl rfl rfl B_b (Nat.le_of_ble_eq_true rfl) rfl ?_)
  intro w2 B_b' hk
  replace K_0 := K_0.then_ hk (fun k h => by rw [show k = b from h]; exact Or.inl rfl)
  replace B_b := B_b'
  clear hk
  refine p_nil ?_
  refine end_of_ret ?_
  refine ret_list (rs := []) (vs := []) rfl hE .nil rfl ?_
  exact ⟨rfl, B_b, K_0⟩
theorem R17_0_l : List.range (regOf Try.f17 0).size = [0] := by kernel_rfl
theorem R17_1_l : List.range (regOf Try.f17 1).size = [0, 1, 2] := by kernel_rfl
theorem R17_2_l : List.range (regOf Try.f17 2).size = [0] := by kernel_rfl
theorem R17_3_l : List.range (regOf Try.f17 3).size = [0, 1, 2, 3, 4, 5, 6] := by kernel_rfl
theorem R17_4_l : List.range (regOf Try.f17 4).size = [0] := by kernel_rfl
theorem R17_5_l : List.range (regOf Try.f17 5).size = [0, 1, 2] := by kernel_rfl
theorem R17_6_l : List.range (regOf Try.f17 6).size = [0] := by kernel_rfl
theorem body17 : Try.f17.body = some (.seq (.region 0 (regOf Try.f17 0) false) (.seq (.block 0 (.seq (.region 1 (regOf Try.f17 1) false) (.cond (Operand.tmp 5) (.seq (.region 2 (regOf Try.f17 2) false) (.ret)) (.seq (.region 3 (regOf Try.f17 3) false) (.cond (Operand.tmp 8) (.seq (.region 4 (regOf Try.f17 4) false) (.ret)) (.skip)))))) (.seq (.region 5 (regOf Try.f17 5) false) (.seq (.region 6 (regOf Try.f17 6) false) (.ret))))) := by kernel_rfl
theorem p17_0_0 : pj (regOf Try.f17 0) 0 = some (some 4, Op.assign (Operand.const (Value.int IntKind.i64 0)), 23, none) := by kernel_rfl
theorem p17_1_0 : pj (regOf Try.f17 1) 0 = some (some 6, Op.move (Operand.tmp 0), 34, none) := by kernel_rfl
theorem p17_1_1 : pj (regOf Try.f17 1) 1 = some (some 7, Op.binOp BinOp.eql 34 (Operand.tmp 6) (Operand.const (Value.pointer none)) 34, 4, none) := by kernel_rfl
theorem tP34 : Try.prog.underlying 34 = some (.pointer (Try.prog.pointee 34)) := by kernel_rfl
theorem p17_1_2 : pj (regOf Try.f17 1) 2 = some (some 5, Op.assign (Operand.tmp 7), 4, none) := by kernel_rfl
theorem p17_3_0 : pj (regOf Try.f17 3) 0 = some (some 9, Op.move (Operand.tmp 1), 3, none) := by kernel_rfl
theorem p17_3_1 : pj (regOf Try.f17 3) 1 = some (some 10, Op.binOp BinOp.lss 3 (Operand.tmp 9) (Operand.const (Value.int IntKind.i64 1)) 3, 4, none) := by kernel_rfl
theorem p17_3_2 : pj (regOf Try.f17 3) 2 = some (some 11, Op.move (Operand.tmp 10), 4, none) := by kernel_rfl
theorem p17_3_3 : pj (regOf Try.f17 3) 3 = some (some 12, Op.move (Operand.tmp 1), 3, some (2, false)) := by kernel_rfl
theorem g17_3_2 : dstOf (regOf Try.f17 3) 2 = some 11 := by kernel_rfl
theorem p17_3_4 : pj (regOf Try.f17 3) 4 = some (some 13, Op.binOp BinOp.gtr 3 (Operand.tmp 12) (Operand.const (Value.int IntKind.i64 16)) 3, 4, some (2, false)) := by kernel_rfl
theorem p17_3_5 : pj (regOf Try.f17 3) 5 = some (some 14, Op.pick (Operand.tmp 11) (Operand.const (Value.bool true)) (Operand.tmp 13), 4, none) := by kernel_rfl
theorem p17_3_6 : pj (regOf Try.f17 3) 6 = some (some 8, Op.assign (Operand.tmp 14), 4, none) := by kernel_rfl
theorem p17_5_0 : pj (regOf Try.f17 5) 0 = some (some 15, Op.move (Operand.tmp 0), 34, none) := by kernel_rfl
theorem p17_5_1 : pj (regOf Try.f17 5) 1 = some (some 16, Op.move (Operand.tmp 1), 3, none) := by kernel_rfl
theorem p17_5_2 : pj (regOf Try.f17 5) 2 = some (some 17, Op.call { callee := Callee.value (Operand.func 47), args := #[Operand.tmp 15, Operand.tmp 16], argTypes := #[34, 3] }, 0, none) := by kernel_rfl
theorem cl47 : callable Try.f47 = true := by kernel_rfl
theorem p17_6_0 : pj (regOf Try.f17 6) 0 = some (some 4, Op.assign (Operand.const (Value.int IntKind.i64 0)), 23, none) := by kernel_rfl
set_option maxHeartbeats 4000000 in
theorem Sample_ok (b m n : Nat) (is : Bool) (s : Int) (hm : is = true → right m) (h1 : 1 ≤ n) (h2 : n ≤ 16) (hs : 0 ≤ s ∧ s ≤ 1099511627776) (w : World) (hb : w.heap[b]? = some (.cells #[.float .f64 m, .bool is, .int .i64 s] 38 (0, 0))) : Calls Try.prog 17 #[.pointer (some ⟨b, 0, none⟩), .int .i64 (n : Int)] w fun e w' => e = .returned (.int .i64 0) ∧ w'.heap[b]? = some (.cells #[.float .f64 (moveF is m n), .bool true, .int .i64 (senF s (n : Int))] 38 (0, 0)) ∧ Kp w w' (fun k => k = b) := by
  have K_0 := Kp.refl w (fun k => k = b)
  have B_b := hb
  refine enter (args := [Value.pointer (some ⟨b, 0, none⟩), Value.int .i64 (n : Int)]) (n := 18) Try.func17 body17 rfl rfl rfl ?_
  intro a hE
  refine c_reg R17_0_l ?_
  refine p_cons (s_still p17_0_0 hE wn_none rfl (st_assign rfl) ?_)
  clear hE a; intro a hE
  refine p_nil ?_
  refine x_norm ?_
  refine wp_seq ?_
  refine wp_block ?_
  refine c_reg R17_1_l ?_
  refine p_cons (s_still p17_1_0 hE wn_none rfl (st_move rfl) ?_)
  clear hE a; intro a hE
  refine p_cons (s_still p17_1_1 hE wn_none rfl (st_eqlP (b := false) tP34 rfl rfl rfl) ?_)
  clear hE a; intro a hE
  refine p_cons (s_still p17_1_2 hE wn_none rfl (st_assign rfl) ?_)
  clear hE a; intro a hE
  refine p_nil ?_
  refine x_norm ?_
  refine c_cond (t := false) hE rfl ?_
  refine c_reg R17_3_l ?_
  refine p_cons (s_still p17_3_0 hE wn_none rfl (st_move rfl) ?_)
  clear hE a; intro a hE
  refine p_cons (s_still p17_3_1 hE wn_none rfl (st_lss (b := false) rfl rfl (decide_eq_false (by omega))) ?_)
  clear hE a; intro a hE
  refine p_cons (s_still p17_3_2 hE wn_none rfl (st_move rfl) ?_)
  clear hE a; intro a hE
  refine p_cons (s_still p17_3_3 hE (wn_some g17_3_2 rfl rfl) rfl (st_move rfl) ?_)
  clear hE a; intro a hE
  refine p_cons (s_still p17_3_4 hE (wn_some g17_3_2 rfl rfl) rfl (st_gtr (b := false) rfl rfl (decide_eq_false (by omega))) ?_)
  clear hE a; intro a hE
  refine p_cons (s_still p17_3_5 hE wn_none rfl (st_pick rfl rfl) ?_)
  clear hE a; intro a hE
  refine p_cons (s_still p17_3_6 hE wn_none rfl (st_assign rfl) ?_)
  clear hE a; intro a hE
  refine p_nil ?_
  refine x_norm ?_
  refine c_cond (t := false) hE rfl ?_
  refine wp_skip ?_
  refine x_normB ?_
  refine x_norm ?_
  refine c_reg R17_5_l ?_
  refine p_cons (s_still p17_5_0 hE wn_none rfl (st_move rfl) ?_)
  clear hE a; intro a hE
  refine p_cons (s_still p17_5_1 hE wn_none rfl (st_move rfl) ?_)
  clear hE a; intro a hE
  refine p_cons (s_call (xs := [Operand.tmp 15, Operand.tmp 16]) (args := [Value.pointer (some ⟨b, 0, none⟩), Value.int .i64 (n : Int)]) p17_5_2 hE wn_none rfl rfl Try.func47 cl47 (sample_any b m n is s hm h1 h2 hs _ B_b) ?_)
  rintro e w1 ⟨rfl, B_b', hk⟩
  replace K_0 := K_0.then_ hk (fun k h => by rw [show k = b from h]; exact Or.inl rfl)
  replace B_b : w1.heap[b]? = some (.cells #[Value.float .f64 (moveF is m n), Value.bool true, Value.int .i64 (senF s (n : Int))] 38 (0, 0)) := B_b'
  clear B_b'
  refine ⟨_, rfl, ?_⟩
  clear hE a; intro a hE
  refine p_nil ?_
  refine x_norm ?_
  refine c_reg R17_6_l ?_
  refine p_cons (s_still p17_6_0 hE wn_none rfl (st_assign rfl) ?_)
  clear hE a; intro a hE
  refine p_nil ?_
  refine x_norm ?_
  refine wp_ret ?_
  refine ret_one (v := Value.int .i64 0) rfl hE (.tmp rfl .nil) ?_
  exact ⟨rfl, B_b, K_0⟩
theorem p17_4_0 : pj (regOf Try.f17 4) 0 = some (some 4, Op.assign (Operand.const (Value.int IntKind.i64 1)), 23, none) := by kernel_rfl
set_option maxHeartbeats 4000000 in
theorem Sample_no (b : Nat) (n : Int) (h : ¬ (1 ≤ n ∧ n ≤ 16)) (w : World) : Calls Try.prog 17 #[.pointer (some ⟨b, 0, none⟩), .int .i64 n] w fun e w' => e = .returned (.int .i64 1) ∧ Kp w w' (fun _ => False) := by
  have K_0 := Kp.refl w (fun _ => False)
  refine enter (args := [Value.pointer (some ⟨b, 0, none⟩), Value.int .i64 n]) (n := 18) Try.func17 body17 rfl rfl rfl ?_
  intro a hE
  rcases Decidable.em (n < 1) with hLO | hLO
  ·
    refine c_reg R17_0_l ?_
    refine p_cons (s_still p17_0_0 hE wn_none rfl (st_assign rfl) ?_)
    clear hE a; intro a hE
    refine p_nil ?_
    refine x_norm ?_
    refine wp_seq ?_
    refine wp_block ?_
    refine c_reg R17_1_l ?_
    refine p_cons (s_still p17_1_0 hE wn_none rfl (st_move rfl) ?_)
    clear hE a; intro a hE
    refine p_cons (s_still p17_1_1 hE wn_none rfl (st_eqlP (b := false) tP34 rfl rfl rfl) ?_)
    clear hE a; intro a hE
    refine p_cons (s_still p17_1_2 hE wn_none rfl (st_assign rfl) ?_)
    clear hE a; intro a hE
    refine p_nil ?_
    refine x_norm ?_
    refine c_cond (t := false) hE rfl ?_
    refine c_reg R17_3_l ?_
    refine p_cons (s_still p17_3_0 hE wn_none rfl (st_move rfl) ?_)
    clear hE a; intro a hE
    refine p_cons (s_still p17_3_1 hE wn_none rfl (st_lss (b := true) rfl rfl (decide_eq_true (by omega))) ?_)
    clear hE a; intro a hE
    refine p_cons (s_still p17_3_2 hE wn_none rfl (st_move rfl) ?_)
    clear hE a; intro a hE
    refine p_cons (s_skip p17_3_3 hE (wn_some g17_3_2 rfl rfl) rfl ?_)
    clear hE a; intro a hE
    refine p_cons (s_skip p17_3_4 hE (wn_some g17_3_2 rfl rfl) rfl ?_)
    clear hE a; intro a hE
    refine p_cons (s_still p17_3_5 hE wn_none rfl (st_pick rfl rfl) ?_)
    clear hE a; intro a hE
    refine p_cons (s_still p17_3_6 hE wn_none rfl (st_assign rfl) ?_)
    clear hE a; intro a hE
    refine p_nil ?_
    refine x_norm ?_
    refine c_cond (t := true) hE rfl ?_
    refine c_reg R17_4_l ?_
    refine p_cons (s_still p17_4_0 hE wn_none rfl (st_assign rfl) ?_)
    clear hE a; intro a hE
    refine p_nil ?_
    refine x_norm ?_
    refine wp_ret ?_
    refine x_retB ?_
    refine x_ret ?_
    refine ret_one (v := Value.int .i64 1) rfl hE (.tmp rfl .nil) ?_
    exact ⟨rfl, K_0⟩
  ·
    refine c_reg R17_0_l ?_
    refine p_cons (s_still p17_0_0 hE wn_none rfl (st_assign rfl) ?_)
    clear hE a; intro a hE
    refine p_nil ?_
    refine x_norm ?_
    refine wp_seq ?_
    refine wp_block ?_
    refine c_reg R17_1_l ?_
    refine p_cons (s_still p17_1_0 hE wn_none rfl (st_move rfl) ?_)
    clear hE a; intro a hE
    refine p_cons (s_still p17_1_1 hE wn_none rfl (st_eqlP (b := false) tP34 rfl rfl rfl) ?_)
    clear hE a; intro a hE
    refine p_cons (s_still p17_1_2 hE wn_none rfl (st_assign rfl) ?_)
    clear hE a; intro a hE
    refine p_nil ?_
    refine x_norm ?_
    refine c_cond (t := false) hE rfl ?_
    refine c_reg R17_3_l ?_
    refine p_cons (s_still p17_3_0 hE wn_none rfl (st_move rfl) ?_)
    clear hE a; intro a hE
    refine p_cons (s_still p17_3_1 hE wn_none rfl (st_lss (b := false) rfl rfl (decide_eq_false (by omega))) ?_)
    clear hE a; intro a hE
    refine p_cons (s_still p17_3_2 hE wn_none rfl (st_move rfl) ?_)
    clear hE a; intro a hE
    refine p_cons (s_still p17_3_3 hE (wn_some g17_3_2 rfl rfl) rfl (st_move rfl) ?_)
    clear hE a; intro a hE
    refine p_cons (s_still p17_3_4 hE (wn_some g17_3_2 rfl rfl) rfl (st_gtr (b := true) rfl rfl (decide_eq_true (by omega))) ?_)
    clear hE a; intro a hE
    refine p_cons (s_still p17_3_5 hE wn_none rfl (st_pick rfl rfl) ?_)
    clear hE a; intro a hE
    refine p_cons (s_still p17_3_6 hE wn_none rfl (st_assign rfl) ?_)
    clear hE a; intro a hE
    refine p_nil ?_
    refine x_norm ?_
    refine c_cond (t := true) hE rfl ?_
    refine c_reg R17_4_l ?_
    refine p_cons (s_still p17_4_0 hE wn_none rfl (st_assign rfl) ?_)
    clear hE a; intro a hE
    refine p_nil ?_
    refine x_norm ?_
    refine wp_ret ?_
    refine x_retB ?_
    refine x_ret ?_
    refine ret_one (v := Value.int .i64 1) rfl hE (.tmp rfl .nil) ?_
    exact ⟨rfl, K_0⟩
theorem R19_0_l : List.range (regOf Try.f19 0).size = [0, 1] := by kernel_rfl
theorem R19_1_l : List.range (regOf Try.f19 1).size = [0, 1] := by kernel_rfl
theorem body19 : Try.f19.body = some (.seq (.region 0 (regOf Try.f19 0) false) (.cond (Operand.tmp 3) (.region 1 (regOf Try.f19 1) false) (.skip))) := by kernel_rfl
theorem p19_0_0 : pj (regOf Try.f19 0) 0 = some (some 2, Op.move (Operand.tmp 0), 34, none) := by kernel_rfl
theorem p19_0_1 : pj (regOf Try.f19 0) 1 = some (some 3, Op.binOp BinOp.neq 34 (Operand.tmp 2) (Operand.const (Value.pointer none)) 34, 4, none) := by kernel_rfl
theorem p19_1_0 : pj (regOf Try.f19 1) 0 = some (some 4, Op.move (Operand.tmp 0), 34, none) := by kernel_rfl
theorem p19_1_1 : pj (regOf Try.f19 1) 1 = some (some 5, Op.call { callee := Callee.value (Operand.func 47), args := #[Operand.tmp 4, Operand.const (Value.int IntKind.i64 16)], argTypes := #[34, 3] }, 0, none) := by kernel_rfl
set_option maxHeartbeats 4000000 in
theorem Fail_ok (b m : Nat) (is : Bool) (s : Int) (hm : is = true → right m) (hs : 0 ≤ s ∧ s ≤ 1099511627776) (w : World) (hb : w.heap[b]? = some (.cells #[.float .f64 m, .bool is, .int .i64 s] 38 (0, 0))) : Calls Try.prog 19 #[.pointer (some ⟨b, 0, none⟩)] w fun e w' => e = .returned (.tuple #[]) ∧ w'.heap[b]? = some (.cells #[.float .f64 (moveF is m 16), .bool true, .int .i64 (senF s (16 : Int))] 38 (0, 0)) ∧ Kp w w' (fun k => k = b) := by
  have K_0 := Kp.refl w (fun k => k = b)
  have B_b := hb
  refine enter (args := [Value.pointer (some ⟨b, 0, none⟩)]) (n := 6) Try.func19 body19 rfl rfl rfl ?_
  intro a hE
  refine c_reg R19_0_l ?_
  refine p_cons (s_still p19_0_0 hE wn_none rfl (st_move rfl) ?_)
  clear hE a; intro a hE
  refine p_cons (s_still p19_0_1 hE wn_none rfl (st_neqP (b := true) tP34 rfl rfl rfl) ?_)
  clear hE a; intro a hE
  refine p_nil ?_
  refine x_norm ?_
  refine c_cond (t := true) hE rfl ?_
  refine c_regL R19_1_l ?_
  refine p_cons (s_still p19_1_0 hE wn_none rfl (st_move rfl) ?_)
  clear hE a; intro a hE
  refine p_cons (s_call (xs := [Operand.tmp 4, Operand.const (Value.int IntKind.i64 16)]) (args := [Value.pointer (some ⟨b, 0, none⟩), Value.int .i64 16]) p19_1_1 hE wn_none rfl rfl Try.func47 cl47 (sample_any b m 16 is s hm (by decide) (by decide) hs _ B_b) ?_)
  rintro e w1 ⟨rfl, B_b', hk⟩
  replace K_0 := K_0.then_ hk (fun k h => by rw [show k = b from h]; exact Or.inl rfl)
  replace B_b : w1.heap[b]? = some (.cells #[Value.float .f64 (moveF is m 16), Value.bool true, Value.int .i64 (senF s (16 : Int))] 38 (0, 0)) := B_b'
  clear B_b'
  refine ⟨_, rfl, ?_⟩
  clear hE a; intro a hE
  refine p_nil ?_
  refine end_of_ret ?_
  refine ret_list (rs := []) (vs := []) rfl hE .nil rfl ?_
  exact ⟨rfl, B_b, K_0⟩
theorem R20_0_l : List.range (regOf Try.f20 0).size = [0] := by kernel_rfl
theorem R20_1_l : List.range (regOf Try.f20 1).size = [0, 1] := by kernel_rfl
theorem R20_2_l : List.range (regOf Try.f20 2).size = [0] := by kernel_rfl
theorem R20_3_l : List.range (regOf Try.f20 3).size = [0, 1, 2, 3, 4, 5, 6] := by kernel_rfl
theorem R20_4_l : List.range (regOf Try.f20 4).size = [0, 1] := by kernel_rfl
theorem R20_5_l : List.range (regOf Try.f20 5).size = [0, 1] := by kernel_rfl
theorem R20_6_l : List.range (regOf Try.f20 6).size = [0, 1, 2, 3, 4, 5] := by kernel_rfl
theorem R20_7_l : List.range (regOf Try.f20 7).size = [0] := by kernel_rfl
theorem body20 : Try.f20.body = some (.seq (.region 0 (regOf Try.f20 0) false) (.seq (.seq (.region 1 (regOf Try.f20 1) false) (.cond (Operand.tmp 8) (.seq (.region 2 (regOf Try.f20 2) false) (.ret)) (.skip))) (.seq (.seq (.region 3 (regOf Try.f20 3) false) (.seq (.region 4 (regOf Try.f20 4) false) (.cond (Operand.tmp 15) (.seq (.region 5 (regOf Try.f20 5) false) (.ret)) (.skip)))) (.seq (.region 6 (regOf Try.f20 6) false) (.seq (.region 7 (regOf Try.f20 7) false) (.ret)))))) := by kernel_rfl
theorem p20_0_0 : pj (regOf Try.f20 0) 0 = some (some 4, Op.assign (Operand.const (Value.int IntKind.i64 0)), 23, none) := by kernel_rfl
theorem p20_1_0 : pj (regOf Try.f20 1) 0 = some (some 7, Op.move (Operand.tmp 0), 34, none) := by kernel_rfl
theorem p20_1_1 : pj (regOf Try.f20 1) 1 = some (some 8, Op.binOp BinOp.eql 34 (Operand.tmp 7) (Operand.const (Value.pointer none)) 34, 4, none) := by kernel_rfl
theorem p20_3_0 : pj (regOf Try.f20 3) 0 = some (some 10, Op.move (Operand.tmp 1), 22, none) := by kernel_rfl
theorem p20_3_1 : pj (regOf Try.f20 3) 1 = some (some 11, Op.call { callee := Callee.value (Operand.func 10), args := #[Operand.tmp 10], argTypes := #[22] }, 24, none) := by kernel_rfl
theorem cl10 : callable Try.f10 = true := by kernel_rfl
theorem p20_3_2 : pj (regOf Try.f20 3) 2 = some (some 9, Op.move (Operand.tmp 11), 24, none) := by kernel_rfl
theorem p20_3_3 : pj (regOf Try.f20 3) 3 = some (some 12, Op.extract (Operand.tmp 9) 0, 3, none) := by kernel_rfl
theorem p20_3_4 : pj (regOf Try.f20 3) 4 = some (some 13, Op.extract (Operand.tmp 9) 1, 23, none) := by kernel_rfl
theorem p20_3_5 : pj (regOf Try.f20 3) 5 = some (some 5, Op.assign (Operand.tmp 12), 3, none) := by kernel_rfl
theorem p20_3_6 : pj (regOf Try.f20 3) 6 = some (some 6, Op.assign (Operand.tmp 13), 23, none) := by kernel_rfl
theorem p20_4_0 : pj (regOf Try.f20 4) 0 = some (some 14, Op.move (Operand.tmp 6), 23, none) := by kernel_rfl
theorem p20_4_1 : pj (regOf Try.f20 4) 1 = some (some 15, Op.binOp BinOp.neq 23 (Operand.tmp 14) (Operand.const (Value.int IntKind.i64 0)) 23, 4, none) := by kernel_rfl
theorem p20_6_0 : pj (regOf Try.f20 6) 0 = some (some 17, Op.move (Operand.tmp 0), 34, none) := by kernel_rfl
theorem p20_6_1 : pj (regOf Try.f20 6) 1 = some (some 18, Op.move (Operand.tmp 1), 22, none) := by kernel_rfl
theorem p20_6_2 : pj (regOf Try.f20 6) 2 = some (some 19, Op.build 36 #[(0, Operand.tmp 18), (1, Operand.const (Value.bool true))], 36, none) := by kernel_rfl
theorem p20_6_3 : pj (regOf Try.f20 6) 3 = some (some 20, Op.nilCheck (Operand.tmp 17), 0, none) := by kernel_rfl
theorem p20_6_4 : pj (regOf Try.f20 6) 4 = some (some 21, Op.fieldAddr 38 (Operand.tmp 20) 0, 0, none) := by kernel_rfl
theorem p20_6_5 : pj (regOf Try.f20 6) 5 = some (none, Op.store 36 (Operand.tmp 21) (Operand.tmp 19), 0, none) := by kernel_rfl
theorem p20_7_0 : pj (regOf Try.f20 7) 0 = some (some 4, Op.assign (Operand.const (Value.int IntKind.i64 0)), 23, none) := by kernel_rfl
theorem p20_5_0 : pj (regOf Try.f20 5) 0 = some (some 16, Op.move (Operand.tmp 6), 23, none) := by kernel_rfl
theorem p20_5_1 : pj (regOf Try.f20 5) 1 = some (some 4, Op.assign (Operand.tmp 16), 23, none) := by kernel_rfl
set_option maxHeartbeats 4000000 in
theorem Set_R {R : Ending → World → Prop} (b m x : Nat) (is : Bool) (s : Int) (hx : x < 18446744073709551616) (w : World) (hb : w.heap[b]? = some (.cells #[.float .f64 m, .bool is, .int .i64 s] 38 (0, 0))) (h0 : right x → ∀ w', w'.heap[b]? = some (.cells #[.float .f64 x, .bool true, .int .i64 s] 38 (0, 0)) ∧ Kp w w' (fun k => k = b) → R (.returned (.int .i64 0)) w') (h1 : ¬ right x → ∀ w', w'.heap[b]? = some (.cells #[.float .f64 m, .bool is, .int .i64 s] 38 (0, 0)) ∧ Kp w w' (fun k => k = b) → R (.returned (.int .i64 1)) w') : Calls Try.prog 20 #[.pointer (some ⟨b, 0, none⟩), .float .f64 x] w R := by
  have K_0 := Kp.refl w (fun k => k = b)
  have B_b := hb
  refine enter (args := [Value.pointer (some ⟨b, 0, none⟩), Value.float .f64 x]) (n := 22) Try.func20 body20 rfl rfl rfl ?_
  intro a hE
  rcases Decidable.em (right x) with hR_x | hR_x
  ·
    refine c_reg R20_0_l ?_
    refine p_cons (s_still p20_0_0 hE wn_none rfl (st_assign rfl) ?_)
    clear hE a; intro a hE
    refine p_nil ?_
    refine x_norm ?_
    refine wp_seq ?_
    refine c_reg R20_1_l ?_
    refine p_cons (s_still p20_1_0 hE wn_none rfl (st_move rfl) ?_)
    clear hE a; intro a hE
    refine p_cons (s_still p20_1_1 hE wn_none rfl (st_eqlP (b := false) tP34 rfl rfl rfl) ?_)
    clear hE a; intro a hE
    refine p_nil ?_
    refine x_norm ?_
    refine c_cond (t := false) hE rfl ?_
    refine wp_skip ?_
    refine x_norm ?_
    refine wp_seq ?_
    refine c_reg R20_3_l ?_
    refine p_cons (s_still p20_3_0 hE wn_none rfl (st_move rfl) ?_)
    clear hE a; intro a hE
    refine p_cons (s_call (xs := [Operand.tmp 10]) (args := [Value.float .f64 x]) p20_3_1 hE wn_none rfl rfl Try.func10 cl10 (cost_any x hx _ 0 rfl (by unfold costE; rw [if_pos hR_x]) _) ?_)
    rintro e w1 ⟨rfl, hk⟩
    replace B_b := kp_blk B_b hk (fun h => h)
    replace K_0 := K_0.then_ hk (fun _ h => h.elim)
    refine ⟨_, rfl, ?_⟩
    clear hE a; intro a hE
    refine p_cons (s_still p20_3_2 hE wn_none rfl (st_move rfl) ?_)
    clear hE a; intro a hE
    refine p_cons (s_still p20_3_3 hE wn_none rfl (st_extract rfl rfl) ?_)
    clear hE a; intro a hE
    refine p_cons (s_still p20_3_4 hE wn_none rfl (st_extract rfl rfl) ?_)
    clear hE a; intro a hE
    refine p_cons (s_still p20_3_5 hE wn_none rfl (st_assign rfl) ?_)
    clear hE a; intro a hE
    refine p_cons (s_still p20_3_6 hE wn_none rfl (st_assign rfl) ?_)
    clear hE a; intro a hE
    refine p_nil ?_
    refine x_norm ?_
    refine c_reg R20_4_l ?_
    refine p_cons (s_still p20_4_0 hE wn_none rfl (st_move rfl) ?_)
    clear hE a; intro a hE
    refine p_cons (s_still p20_4_1 hE wn_none rfl (st_neq (b := false) rfl rfl (by decide)) ?_)
    clear hE a; intro a hE
    refine p_nil ?_
    refine x_norm ?_
    refine c_cond (t := false) hE rfl ?_
    refine wp_skip ?_
    refine x_norm ?_
    refine c_reg R20_6_l ?_
    refine p_cons (s_still p20_6_0 hE wn_none rfl (st_move rfl) ?_)
    clear hE a; intro a hE
    refine p_cons (s_still p20_6_1 hE wn_none rfl (st_move rfl) ?_)
    clear hE a; intro a hE
    refine p_cons (s_still p20_6_2 hE wn_none rfl (st_build (xs := [(0, Operand.tmp 18), (1, Operand.const (Value.bool true))]) (vs := [(0, Value.float .f64 x), (1, Value.bool true)]) (cs := #[Value.float .f64 x, Value.bool true]) rfl (by kernel_rfl)) ?_)
    clear hE a; intro a hE
    refine p_cons (s_still p20_6_3 hE wn_none rfl (st_nil rfl) ?_)
    clear hE a; intro a hE
    refine p_cons (s_still p20_6_4 hE wn_none rfl (st_fieldAddr Try.underlying38 rfl tS36 rfl rfl) ?_)
    clear hE a; intro a hE
    refine p_cons (s_store (off := 0) (k := 2) (cs' := #[Value.float .f64 x, Value.bool true, Value.int .i64 s]) p20_6_5 hE wn_none tS36 rfl rfl rfl rfl B_b (Nat.le_of_ble_eq_true rfl) rfl ?_)
    intro w2 B_b' hk
    replace K_0 := K_0.then_ hk (fun k h => by rw [show k = b from h]; exact Or.inl rfl)
    replace B_b := B_b'
    clear hk
    refine p_nil ?_
    refine x_norm ?_
    refine c_reg R20_7_l ?_
    refine p_cons (s_still p20_7_0 hE wn_none rfl (st_assign rfl) ?_)
    clear hE a; intro a hE
    refine p_nil ?_
    refine x_norm ?_
    refine wp_ret ?_
    refine ret_one (v := Value.int .i64 0) rfl hE (.tmp rfl .nil) ?_
    exact h0 (hR_x) _ ⟨B_b, K_0⟩
  ·
    refine c_reg R20_0_l ?_
    refine p_cons (s_still p20_0_0 hE wn_none rfl (st_assign rfl) ?_)
    clear hE a; intro a hE
    refine p_nil ?_
    refine x_norm ?_
    refine wp_seq ?_
    refine c_reg R20_1_l ?_
    refine p_cons (s_still p20_1_0 hE wn_none rfl (st_move rfl) ?_)
    clear hE a; intro a hE
    refine p_cons (s_still p20_1_1 hE wn_none rfl (st_eqlP (b := false) tP34 rfl rfl rfl) ?_)
    clear hE a; intro a hE
    refine p_nil ?_
    refine x_norm ?_
    refine c_cond (t := false) hE rfl ?_
    refine wp_skip ?_
    refine x_norm ?_
    refine wp_seq ?_
    refine c_reg R20_3_l ?_
    refine p_cons (s_still p20_3_0 hE wn_none rfl (st_move rfl) ?_)
    clear hE a; intro a hE
    refine p_cons (s_call (xs := [Operand.tmp 10]) (args := [Value.float .f64 x]) p20_3_1 hE wn_none rfl rfl Try.func10 cl10 (cost_any x hx _ 1 rfl (by unfold costE; rw [if_neg hR_x]) _) ?_)
    rintro e w3 ⟨rfl, hk⟩
    replace B_b := kp_blk B_b hk (fun h => h)
    replace K_0 := K_0.then_ hk (fun _ h => h.elim)
    refine ⟨_, rfl, ?_⟩
    clear hE a; intro a hE
    refine p_cons (s_still p20_3_2 hE wn_none rfl (st_move rfl) ?_)
    clear hE a; intro a hE
    refine p_cons (s_still p20_3_3 hE wn_none rfl (st_extract rfl rfl) ?_)
    clear hE a; intro a hE
    refine p_cons (s_still p20_3_4 hE wn_none rfl (st_extract rfl rfl) ?_)
    clear hE a; intro a hE
    refine p_cons (s_still p20_3_5 hE wn_none rfl (st_assign rfl) ?_)
    clear hE a; intro a hE
    refine p_cons (s_still p20_3_6 hE wn_none rfl (st_assign rfl) ?_)
    clear hE a; intro a hE
    refine p_nil ?_
    refine x_norm ?_
    refine c_reg R20_4_l ?_
    refine p_cons (s_still p20_4_0 hE wn_none rfl (st_move rfl) ?_)
    clear hE a; intro a hE
    refine p_cons (s_still p20_4_1 hE wn_none rfl (st_neq (b := true) rfl rfl (by decide)) ?_)
    clear hE a; intro a hE
    refine p_nil ?_
    refine x_norm ?_
    refine c_cond (t := true) hE rfl ?_
    refine c_reg R20_5_l ?_
    refine p_cons (s_still p20_5_0 hE wn_none rfl (st_move rfl) ?_)
    clear hE a; intro a hE
    refine p_cons (s_still p20_5_1 hE wn_none rfl (st_assign rfl) ?_)
    clear hE a; intro a hE
    refine p_nil ?_
    refine x_norm ?_
    refine wp_ret ?_
    refine x_ret ?_
    refine ret_one (v := Value.int .i64 1) rfl hE (.tmp rfl .nil) ?_
    exact h1 (hR_x) _ ⟨B_b, K_0⟩
theorem R22_0_l : List.range (regOf Try.f22 0).size = [0, 1] := by kernel_rfl
theorem R22_1_l : List.range (regOf Try.f22 1).size = [0, 1, 2] := by kernel_rfl
theorem R22_2_l : List.range (regOf Try.f22 2).size = [0, 1] := by kernel_rfl
theorem R22_3_l : List.range (regOf Try.f22 3).size = [0, 1, 2, 3, 4, 5, 6] := by kernel_rfl
theorem R22_4_l : List.range (regOf Try.f22 4).size = [0, 1] := by kernel_rfl
theorem R22_5_l : List.range (regOf Try.f22 5).size = [0, 1, 2, 3, 4, 5, 6] := by kernel_rfl
theorem body22 : Try.f22.body = some (.seq (.region 0 (regOf Try.f22 0) false) (.seq (.block 0 (.seq (.region 1 (regOf Try.f22 1) false) (.cond (Operand.tmp 4) (.seq (.region 2 (regOf Try.f22 2) false) (.ret)) (.seq (.region 3 (regOf Try.f22 3) false) (.cond (Operand.tmp 7) (.seq (.region 4 (regOf Try.f22 4) false) (.ret)) (.skip)))))) (.seq (.region 5 (regOf Try.f22 5) false) (.ret)))) := by kernel_rfl
theorem p22_0_0 : pj (regOf Try.f22 0) 0 = some (some 2, Op.assign (Operand.const (Value.float FloatKind.f64 0)), 22, none) := by kernel_rfl
theorem p22_0_1 : pj (regOf Try.f22 0) 1 = some (some 3, Op.assign (Operand.const (Value.int IntKind.i64 0)), 23, none) := by kernel_rfl
theorem p22_1_0 : pj (regOf Try.f22 1) 0 = some (some 5, Op.move (Operand.tmp 0), 34, none) := by kernel_rfl
theorem p22_1_1 : pj (regOf Try.f22 1) 1 = some (some 6, Op.binOp BinOp.eql 34 (Operand.tmp 5) (Operand.const (Value.pointer none)) 34, 4, none) := by kernel_rfl
theorem p22_1_2 : pj (regOf Try.f22 1) 2 = some (some 4, Op.assign (Operand.tmp 6), 4, none) := by kernel_rfl
theorem p22_3_0 : pj (regOf Try.f22 3) 0 = some (some 8, Op.move (Operand.tmp 0), 34, none) := by kernel_rfl
theorem p22_3_1 : pj (regOf Try.f22 3) 1 = some (some 9, Op.nilCheck (Operand.tmp 8), 0, none) := by kernel_rfl
theorem p22_3_2 : pj (regOf Try.f22 3) 2 = some (some 10, Op.fieldAddr 38 (Operand.tmp 9) 0, 0, none) := by kernel_rfl
theorem p22_3_3 : pj (regOf Try.f22 3) 3 = some (some 11, Op.fieldAddr 36 (Operand.tmp 10) 1, 0, none) := by kernel_rfl
theorem p22_3_4 : pj (regOf Try.f22 3) 4 = some (some 12, Op.load 4 (Operand.tmp 11), 4, none) := by kernel_rfl
theorem p22_3_5 : pj (regOf Try.f22 3) 5 = some (some 13, Op.unOp UnOp.not 4 (Operand.tmp 12), 4, none) := by kernel_rfl
theorem p22_3_6 : pj (regOf Try.f22 3) 6 = some (some 7, Op.assign (Operand.tmp 13), 4, none) := by kernel_rfl
theorem p22_5_0 : pj (regOf Try.f22 5) 0 = some (some 14, Op.move (Operand.tmp 0), 34, none) := by kernel_rfl
theorem p22_5_1 : pj (regOf Try.f22 5) 1 = some (some 15, Op.nilCheck (Operand.tmp 14), 0, none) := by kernel_rfl
theorem p22_5_2 : pj (regOf Try.f22 5) 2 = some (some 16, Op.fieldAddr 38 (Operand.tmp 15) 0, 0, none) := by kernel_rfl
theorem p22_5_3 : pj (regOf Try.f22 5) 3 = some (some 17, Op.fieldAddr 36 (Operand.tmp 16) 0, 0, none) := by kernel_rfl
theorem p22_5_4 : pj (regOf Try.f22 5) 4 = some (some 18, Op.load 22 (Operand.tmp 17), 22, none) := by kernel_rfl
theorem p22_5_5 : pj (regOf Try.f22 5) 5 = some (some 2, Op.assign (Operand.tmp 18), 22, none) := by kernel_rfl
theorem p22_5_6 : pj (regOf Try.f22 5) 6 = some (some 3, Op.assign (Operand.const (Value.int IntKind.i64 0)), 23, none) := by kernel_rfl
set_option maxHeartbeats 4000000 in
theorem Mean_true (b m : Nat) (s : Int) (w : World) (hb : w.heap[b]? = some (.cells #[.float .f64 m, .bool true, .int .i64 s] 38 (0, 0))) : Calls Try.prog 22 #[.pointer (some ⟨b, 0, none⟩)] w fun e w' => e = .returned (.tuple #[.float .f64 m, .int .i64 0]) ∧ Kp w w' (fun _ => False) := by
  have K_0 := Kp.refl w (fun _ => False)
  have B_b := hb
  refine enter (args := [Value.pointer (some ⟨b, 0, none⟩)]) (n := 19) Try.func22 body22 rfl rfl rfl ?_
  intro a hE
  refine c_reg R22_0_l ?_
  refine p_cons (s_still p22_0_0 hE wn_none rfl (st_assign rfl) ?_)
  clear hE a; intro a hE
  refine p_cons (s_still p22_0_1 hE wn_none rfl (st_assign rfl) ?_)
  clear hE a; intro a hE
  refine p_nil ?_
  refine x_norm ?_
  refine wp_seq ?_
  refine wp_block ?_
  refine c_reg R22_1_l ?_
  refine p_cons (s_still p22_1_0 hE wn_none rfl (st_move rfl) ?_)
  clear hE a; intro a hE
  refine p_cons (s_still p22_1_1 hE wn_none rfl (st_eqlP (b := false) tP34 rfl rfl rfl) ?_)
  clear hE a; intro a hE
  refine p_cons (s_still p22_1_2 hE wn_none rfl (st_assign rfl) ?_)
  clear hE a; intro a hE
  refine p_nil ?_
  refine x_norm ?_
  refine c_cond (t := false) hE rfl ?_
  refine c_reg R22_3_l ?_
  refine p_cons (s_still p22_3_0 hE wn_none rfl (st_move rfl) ?_)
  clear hE a; intro a hE
  refine p_cons (s_still p22_3_1 hE wn_none rfl (st_nil rfl) ?_)
  clear hE a; intro a hE
  refine p_cons (s_still p22_3_2 hE wn_none rfl (st_fieldAddr Try.underlying38 rfl tS36 rfl rfl) ?_)
  clear hE a; intro a hE
  refine p_cons (s_still p22_3_3 hE wn_none rfl (st_fieldAddr Try.underlying36 rfl tS4 rfl rfl) ?_)
  clear hE a; intro a hE
  refine p_cons (s_still p22_3_4 hE wn_none rfl (st_load1 tA4 rfl ((blk_cell B_b 1).trans rfl)) ?_)
  clear hE a; intro a hE
  refine p_cons (s_still p22_3_5 hE wn_none rfl (st_not rfl rfl) ?_)
  clear hE a; intro a hE
  refine p_cons (s_still p22_3_6 hE wn_none rfl (st_assign rfl) ?_)
  clear hE a; intro a hE
  refine p_nil ?_
  refine x_norm ?_
  refine c_cond (t := false) hE rfl ?_
  refine wp_skip ?_
  refine x_normB ?_
  refine x_norm ?_
  refine c_reg R22_5_l ?_
  refine p_cons (s_still p22_5_0 hE wn_none rfl (st_move rfl) ?_)
  clear hE a; intro a hE
  refine p_cons (s_still p22_5_1 hE wn_none rfl (st_nil rfl) ?_)
  clear hE a; intro a hE
  refine p_cons (s_still p22_5_2 hE wn_none rfl (st_fieldAddr Try.underlying38 rfl tS36 rfl rfl) ?_)
  clear hE a; intro a hE
  refine p_cons (s_still p22_5_3 hE wn_none rfl (st_fieldAddr Try.underlying36 rfl tS22 rfl rfl) ?_)
  clear hE a; intro a hE
  refine p_cons (s_still p22_5_4 hE wn_none rfl (st_load1 tA22 rfl ((blk_cell B_b 0).trans rfl)) ?_)
  clear hE a; intro a hE
  refine p_cons (s_still p22_5_5 hE wn_none rfl (st_assign rfl) ?_)
  clear hE a; intro a hE
  refine p_cons (s_still p22_5_6 hE wn_none rfl (st_assign rfl) ?_)
  clear hE a; intro a hE
  refine p_nil ?_
  refine x_norm ?_
  refine wp_ret ?_
  refine ret_list (rs := [.tmp 2, .tmp 3]) (vs := [Value.float .f64 m, Value.int .i64 0]) rfl hE (.tmp rfl (.tmp rfl .nil)) rfl ?_
  exact ⟨rfl, K_0⟩
theorem R24_0_l : List.range (regOf Try.f24 0).size = [0] := by kernel_rfl
theorem R24_1_l : List.range (regOf Try.f24 1).size = [0, 1, 2, 3, 4, 5, 6] := by kernel_rfl
theorem R24_2_l : List.range (regOf Try.f24 2).size = [0, 1] := by kernel_rfl
theorem R24_3_l : List.range (regOf Try.f24 3).size = [0] := by kernel_rfl
theorem R24_4_l : List.range (regOf Try.f24 4).size = [0, 1, 2, 3, 4, 5, 6] := by kernel_rfl
theorem R24_5_l : List.range (regOf Try.f24 5).size = [0, 1] := by kernel_rfl
theorem body24 : Try.f24.body = some (.seq (.region 0 (regOf Try.f24 0) false) (.seq (.region 1 (regOf Try.f24 1) false) (.seq (.seq (.region 2 (regOf Try.f24 2) false) (.cond (Operand.tmp 13) (.seq (.region 3 (regOf Try.f24 3) false) (.ret)) (.skip))) (.seq (.region 4 (regOf Try.f24 4) false) (.seq (.region 5 (regOf Try.f24 5) false) (.ret)))))) := by kernel_rfl
theorem p24_0_0 : pj (regOf Try.f24 0) 0 = some (some 2, Op.assign (Operand.const (Value.int IntKind.i64 0)), 3, none) := by kernel_rfl
theorem p24_1_0 : pj (regOf Try.f24 1) 0 = some (some 8, Op.move (Operand.tmp 0), 34, none) := by kernel_rfl
theorem p24_1_1 : pj (regOf Try.f24 1) 1 = some (some 9, Op.call { callee := Callee.value (Operand.func 22), args := #[Operand.tmp 8], argTypes := #[34] }, 28, none) := by kernel_rfl
theorem cl22 : callable Try.f22 = true := by kernel_rfl
theorem p24_1_2 : pj (regOf Try.f24 1) 2 = some (some 7, Op.move (Operand.tmp 9), 28, none) := by kernel_rfl
theorem p24_1_3 : pj (regOf Try.f24 1) 3 = some (some 10, Op.extract (Operand.tmp 7) 0, 22, none) := by kernel_rfl
theorem p24_1_4 : pj (regOf Try.f24 1) 4 = some (some 11, Op.extract (Operand.tmp 7) 1, 23, none) := by kernel_rfl
theorem p24_1_5 : pj (regOf Try.f24 1) 5 = some (some 3, Op.assign (Operand.tmp 10), 22, none) := by kernel_rfl
theorem p24_1_6 : pj (regOf Try.f24 1) 6 = some (some 4, Op.assign (Operand.tmp 11), 23, none) := by kernel_rfl
theorem p24_2_0 : pj (regOf Try.f24 2) 0 = some (some 12, Op.move (Operand.tmp 4), 23, none) := by kernel_rfl
theorem p24_2_1 : pj (regOf Try.f24 2) 1 = some (some 13, Op.binOp BinOp.neq 23 (Operand.tmp 12) (Operand.const (Value.int IntKind.i64 0)) 23, 4, none) := by kernel_rfl
theorem p24_4_0 : pj (regOf Try.f24 4) 0 = some (some 15, Op.move (Operand.tmp 3), 22, none) := by kernel_rfl
theorem p24_4_1 : pj (regOf Try.f24 4) 1 = some (some 16, Op.call { callee := Callee.value (Operand.func 10), args := #[Operand.tmp 15], argTypes := #[22] }, 24, none) := by kernel_rfl
theorem p24_4_2 : pj (regOf Try.f24 4) 2 = some (some 14, Op.move (Operand.tmp 16), 24, none) := by kernel_rfl
theorem p24_4_3 : pj (regOf Try.f24 4) 3 = some (some 17, Op.extract (Operand.tmp 14) 0, 3, none) := by kernel_rfl
theorem p24_4_4 : pj (regOf Try.f24 4) 4 = some (some 18, Op.extract (Operand.tmp 14) 1, 23, none) := by kernel_rfl
theorem p24_4_5 : pj (regOf Try.f24 4) 5 = some (some 5, Op.assign (Operand.tmp 17), 3, none) := by kernel_rfl
theorem p24_4_6 : pj (regOf Try.f24 4) 6 = some (some 6, Op.assign (Operand.tmp 18), 23, none) := by kernel_rfl
theorem p24_5_0 : pj (regOf Try.f24 5) 0 = some (some 19, Op.move (Operand.tmp 5), 3, none) := by kernel_rfl
theorem p24_5_1 : pj (regOf Try.f24 5) 1 = some (some 2, Op.assign (Operand.tmp 19), 3, none) := by kernel_rfl
set_option maxHeartbeats 4000000 in
theorem LCost_true (b m : Nat) (s : Int) (hm : right m) (v : Int) (hv : costV m = v) (w : World) (hb : w.heap[b]? = some (.cells #[.float .f64 m, .bool true, .int .i64 s] 38 (0, 0))) : Calls Try.prog 24 #[.pointer (some ⟨b, 0, none⟩)] w fun e w' => e = .returned (.int .i64 v) ∧ Kp w w' (fun _ => False) := by
  have K_0 := Kp.refl w (fun _ => False)
  have B_b := hb
  refine enter (args := [Value.pointer (some ⟨b, 0, none⟩)]) (n := 20) Try.func24 body24 rfl rfl rfl ?_
  intro a hE
  refine c_reg R24_0_l ?_
  refine p_cons (s_still p24_0_0 hE wn_none rfl (st_assign rfl) ?_)
  clear hE a; intro a hE
  refine p_nil ?_
  refine x_norm ?_
  refine c_reg R24_1_l ?_
  refine p_cons (s_still p24_1_0 hE wn_none rfl (st_move rfl) ?_)
  clear hE a; intro a hE
  refine p_cons (s_call (xs := [Operand.tmp 8]) (args := [Value.pointer (some ⟨b, 0, none⟩)]) p24_1_1 hE wn_none rfl rfl Try.func22 cl22 (Mean_true b m s _ B_b) ?_)
  rintro e w1 ⟨rfl, hk⟩
  replace B_b := kp_blk B_b hk (fun h => h)
  replace K_0 := K_0.then_ hk (fun _ h => h.elim)
  refine ⟨_, rfl, ?_⟩
  clear hE a; intro a hE
  refine p_cons (s_still p24_1_2 hE wn_none rfl (st_move rfl) ?_)
  clear hE a; intro a hE
  refine p_cons (s_still p24_1_3 hE wn_none rfl (st_extract rfl rfl) ?_)
  clear hE a; intro a hE
  refine p_cons (s_still p24_1_4 hE wn_none rfl (st_extract rfl rfl) ?_)
  clear hE a; intro a hE
  refine p_cons (s_still p24_1_5 hE wn_none rfl (st_assign rfl) ?_)
  clear hE a; intro a hE
  refine p_cons (s_still p24_1_6 hE wn_none rfl (st_assign rfl) ?_)
  clear hE a; intro a hE
  refine p_nil ?_
  refine x_norm ?_
  refine wp_seq ?_
  refine c_reg R24_2_l ?_
  refine p_cons (s_still p24_2_0 hE wn_none rfl (st_move rfl) ?_)
  clear hE a; intro a hE
  refine p_cons (s_still p24_2_1 hE wn_none rfl (st_neq (b := false) rfl rfl (by decide)) ?_)
  clear hE a; intro a hE
  refine p_nil ?_
  refine x_norm ?_
  refine c_cond (t := false) hE rfl ?_
  refine wp_skip ?_
  refine x_norm ?_
  refine c_reg R24_4_l ?_
  refine p_cons (s_still p24_4_0 hE wn_none rfl (st_move rfl) ?_)
  clear hE a; intro a hE
  refine p_cons (s_call (xs := [Operand.tmp 15]) (args := [Value.float .f64 m]) p24_4_1 hE wn_none rfl rfl Try.func10 cl10 (cost_any m (by have := (hm).2; omega) v 0 hv (by unfold costE; rw [if_pos hm]) _) ?_)
  rintro e w2 ⟨rfl, hk⟩
  replace B_b := kp_blk B_b hk (fun h => h)
  replace K_0 := K_0.then_ hk (fun _ h => h.elim)
  refine ⟨_, rfl, ?_⟩
  clear hE a; intro a hE
  refine p_cons (s_still p24_4_2 hE wn_none rfl (st_move rfl) ?_)
  clear hE a; intro a hE
  refine p_cons (s_still p24_4_3 hE wn_none rfl (st_extract rfl rfl) ?_)
  clear hE a; intro a hE
  refine p_cons (s_still p24_4_4 hE wn_none rfl (st_extract rfl rfl) ?_)
  clear hE a; intro a hE
  refine p_cons (s_still p24_4_5 hE wn_none rfl (st_assign rfl) ?_)
  clear hE a; intro a hE
  refine p_cons (s_still p24_4_6 hE wn_none rfl (st_assign rfl) ?_)
  clear hE a; intro a hE
  refine p_nil ?_
  refine x_norm ?_
  refine c_reg R24_5_l ?_
  refine p_cons (s_still p24_5_0 hE wn_none rfl (st_move rfl) ?_)
  clear hE a; intro a hE
  refine p_cons (s_still p24_5_1 hE wn_none rfl (st_assign rfl) ?_)
  clear hE a; intro a hE
  refine p_nil ?_
  refine x_norm ?_
  refine wp_ret ?_
  refine ret_one (v := Value.int .i64 v) rfl hE (.tmp rfl .nil) ?_
  exact ⟨rfl, K_0⟩
theorem p22_4_0 : pj (regOf Try.f22 4) 0 = some (some 2, Op.assign (Operand.const (Value.float FloatKind.f64 0)), 22, none) := by kernel_rfl
theorem p22_4_1 : pj (regOf Try.f22 4) 1 = some (some 3, Op.assign (Operand.const (Value.int IntKind.i64 8)), 23, none) := by kernel_rfl
set_option maxHeartbeats 4000000 in
theorem Mean_false (b m : Nat) (s : Int) (w : World) (hb : w.heap[b]? = some (.cells #[.float .f64 m, .bool false, .int .i64 s] 38 (0, 0))) : Calls Try.prog 22 #[.pointer (some ⟨b, 0, none⟩)] w fun e w' => e = .returned (.tuple #[.float .f64 0, .int .i64 8]) ∧ Kp w w' (fun _ => False) := by
  have K_0 := Kp.refl w (fun _ => False)
  have B_b := hb
  refine enter (args := [Value.pointer (some ⟨b, 0, none⟩)]) (n := 19) Try.func22 body22 rfl rfl rfl ?_
  intro a hE
  refine c_reg R22_0_l ?_
  refine p_cons (s_still p22_0_0 hE wn_none rfl (st_assign rfl) ?_)
  clear hE a; intro a hE
  refine p_cons (s_still p22_0_1 hE wn_none rfl (st_assign rfl) ?_)
  clear hE a; intro a hE
  refine p_nil ?_
  refine x_norm ?_
  refine wp_seq ?_
  refine wp_block ?_
  refine c_reg R22_1_l ?_
  refine p_cons (s_still p22_1_0 hE wn_none rfl (st_move rfl) ?_)
  clear hE a; intro a hE
  refine p_cons (s_still p22_1_1 hE wn_none rfl (st_eqlP (b := false) tP34 rfl rfl rfl) ?_)
  clear hE a; intro a hE
  refine p_cons (s_still p22_1_2 hE wn_none rfl (st_assign rfl) ?_)
  clear hE a; intro a hE
  refine p_nil ?_
  refine x_norm ?_
  refine c_cond (t := false) hE rfl ?_
  refine c_reg R22_3_l ?_
  refine p_cons (s_still p22_3_0 hE wn_none rfl (st_move rfl) ?_)
  clear hE a; intro a hE
  refine p_cons (s_still p22_3_1 hE wn_none rfl (st_nil rfl) ?_)
  clear hE a; intro a hE
  refine p_cons (s_still p22_3_2 hE wn_none rfl (st_fieldAddr Try.underlying38 rfl tS36 rfl rfl) ?_)
  clear hE a; intro a hE
  refine p_cons (s_still p22_3_3 hE wn_none rfl (st_fieldAddr Try.underlying36 rfl tS4 rfl rfl) ?_)
  clear hE a; intro a hE
  refine p_cons (s_still p22_3_4 hE wn_none rfl (st_load1 tA4 rfl ((blk_cell B_b 1).trans rfl)) ?_)
  clear hE a; intro a hE
  refine p_cons (s_still p22_3_5 hE wn_none rfl (st_not rfl rfl) ?_)
  clear hE a; intro a hE
  refine p_cons (s_still p22_3_6 hE wn_none rfl (st_assign rfl) ?_)
  clear hE a; intro a hE
  refine p_nil ?_
  refine x_norm ?_
  refine c_cond (t := true) hE rfl ?_
  refine c_reg R22_4_l ?_
  refine p_cons (s_still p22_4_0 hE wn_none rfl (st_assign rfl) ?_)
  clear hE a; intro a hE
  refine p_cons (s_still p22_4_1 hE wn_none rfl (st_assign rfl) ?_)
  clear hE a; intro a hE
  refine p_nil ?_
  refine x_norm ?_
  refine wp_ret ?_
  refine x_retB ?_
  refine x_ret ?_
  refine ret_list (rs := [.tmp 2, .tmp 3]) (vs := [Value.float .f64 0, Value.int .i64 8]) rfl hE (.tmp rfl (.tmp rfl .nil)) rfl ?_
  exact ⟨rfl, K_0⟩
theorem p24_3_0 : pj (regOf Try.f24 3) 0 = some (some 2, Op.assign (Operand.const (Value.int IntKind.i64 65535)), 3, none) := by kernel_rfl
set_option maxHeartbeats 4000000 in
theorem LCost_false (b m : Nat) (s : Int)  (w : World) (hb : w.heap[b]? = some (.cells #[.float .f64 m, .bool false, .int .i64 s] 38 (0, 0))) : Calls Try.prog 24 #[.pointer (some ⟨b, 0, none⟩)] w fun e w' => e = .returned (.int .i64 65535) ∧ Kp w w' (fun _ => False) := by
  have K_0 := Kp.refl w (fun _ => False)
  have B_b := hb
  refine enter (args := [Value.pointer (some ⟨b, 0, none⟩)]) (n := 20) Try.func24 body24 rfl rfl rfl ?_
  intro a hE
  refine c_reg R24_0_l ?_
  refine p_cons (s_still p24_0_0 hE wn_none rfl (st_assign rfl) ?_)
  clear hE a; intro a hE
  refine p_nil ?_
  refine x_norm ?_
  refine c_reg R24_1_l ?_
  refine p_cons (s_still p24_1_0 hE wn_none rfl (st_move rfl) ?_)
  clear hE a; intro a hE
  refine p_cons (s_call (xs := [Operand.tmp 8]) (args := [Value.pointer (some ⟨b, 0, none⟩)]) p24_1_1 hE wn_none rfl rfl Try.func22 cl22 (Mean_false b m s _ B_b) ?_)
  rintro e w1 ⟨rfl, hk⟩
  replace B_b := kp_blk B_b hk (fun h => h)
  replace K_0 := K_0.then_ hk (fun _ h => h.elim)
  refine ⟨_, rfl, ?_⟩
  clear hE a; intro a hE
  refine p_cons (s_still p24_1_2 hE wn_none rfl (st_move rfl) ?_)
  clear hE a; intro a hE
  refine p_cons (s_still p24_1_3 hE wn_none rfl (st_extract rfl rfl) ?_)
  clear hE a; intro a hE
  refine p_cons (s_still p24_1_4 hE wn_none rfl (st_extract rfl rfl) ?_)
  clear hE a; intro a hE
  refine p_cons (s_still p24_1_5 hE wn_none rfl (st_assign rfl) ?_)
  clear hE a; intro a hE
  refine p_cons (s_still p24_1_6 hE wn_none rfl (st_assign rfl) ?_)
  clear hE a; intro a hE
  refine p_nil ?_
  refine x_norm ?_
  refine wp_seq ?_
  refine c_reg R24_2_l ?_
  refine p_cons (s_still p24_2_0 hE wn_none rfl (st_move rfl) ?_)
  clear hE a; intro a hE
  refine p_cons (s_still p24_2_1 hE wn_none rfl (st_neq (b := true) rfl rfl (by decide)) ?_)
  clear hE a; intro a hE
  refine p_nil ?_
  refine x_norm ?_
  refine c_cond (t := true) hE rfl ?_
  refine c_reg R24_3_l ?_
  refine p_cons (s_still p24_3_0 hE wn_none rfl (st_assign rfl) ?_)
  clear hE a; intro a hE
  refine p_nil ?_
  refine x_norm ?_
  refine wp_ret ?_
  refine x_ret ?_
  refine ret_one (v := Value.int .i64 65535) rfl hE (.tmp rfl .nil) ?_
  exact ⟨rfl, K_0⟩
theorem R23_0_l : List.range (regOf Try.f23 0).size = [0] := by kernel_rfl
theorem R23_1_l : List.range (regOf Try.f23 1).size = [0, 1] := by kernel_rfl
theorem R23_2_l : List.range (regOf Try.f23 2).size = [0] := by kernel_rfl
theorem R23_3_l : List.range (regOf Try.f23 3).size = [0, 1, 2, 3, 4] := by kernel_rfl
theorem body23 : Try.f23.body = some (.seq (.region 0 (regOf Try.f23 0) false) (.seq (.seq (.region 1 (regOf Try.f23 1) false) (.cond (Operand.tmp 4) (.seq (.region 2 (regOf Try.f23 2) false) (.ret)) (.skip))) (.seq (.region 3 (regOf Try.f23 3) false) (.ret)))) := by kernel_rfl
theorem p23_0_0 : pj (regOf Try.f23 0) 0 = some (some 2, Op.assign (Operand.const (Value.int IntKind.i64 0)), 3, none) := by kernel_rfl
theorem p23_1_0 : pj (regOf Try.f23 1) 0 = some (some 3, Op.move (Operand.tmp 0), 34, none) := by kernel_rfl
theorem p23_1_1 : pj (regOf Try.f23 1) 1 = some (some 4, Op.binOp BinOp.eql 34 (Operand.tmp 3) (Operand.const (Value.pointer none)) 34, 4, none) := by kernel_rfl
theorem p23_3_0 : pj (regOf Try.f23 3) 0 = some (some 5, Op.move (Operand.tmp 0), 34, none) := by kernel_rfl
theorem p23_3_1 : pj (regOf Try.f23 3) 1 = some (some 6, Op.nilCheck (Operand.tmp 5), 0, none) := by kernel_rfl
theorem p23_3_2 : pj (regOf Try.f23 3) 2 = some (some 7, Op.fieldAddr 38 (Operand.tmp 6) 1, 0, none) := by kernel_rfl
theorem p23_3_3 : pj (regOf Try.f23 3) 3 = some (some 8, Op.load 3 (Operand.tmp 7), 3, none) := by kernel_rfl
theorem p23_3_4 : pj (regOf Try.f23 3) 4 = some (some 2, Op.assign (Operand.tmp 8), 3, none) := by kernel_rfl
set_option maxHeartbeats 4000000 in
theorem Sent_any (b m : Nat) (is : Bool) (s : Int) (w : World) (hb : w.heap[b]? = some (.cells #[.float .f64 m, .bool is, .int .i64 s] 38 (0, 0))) : Calls Try.prog 23 #[.pointer (some ⟨b, 0, none⟩)] w fun e w' => e = .returned (.int .i64 s) ∧ Kp w w' (fun _ => False) := by
  have K_0 := Kp.refl w (fun _ => False)
  have B_b := hb
  refine enter (args := [Value.pointer (some ⟨b, 0, none⟩)]) (n := 9) Try.func23 body23 rfl rfl rfl ?_
  intro a hE
  refine c_reg R23_0_l ?_
  refine p_cons (s_still p23_0_0 hE wn_none rfl (st_assign rfl) ?_)
  clear hE a; intro a hE
  refine p_nil ?_
  refine x_norm ?_
  refine wp_seq ?_
  refine c_reg R23_1_l ?_
  refine p_cons (s_still p23_1_0 hE wn_none rfl (st_move rfl) ?_)
  clear hE a; intro a hE
  refine p_cons (s_still p23_1_1 hE wn_none rfl (st_eqlP (b := false) tP34 rfl rfl rfl) ?_)
  clear hE a; intro a hE
  refine p_nil ?_
  refine x_norm ?_
  refine c_cond (t := false) hE rfl ?_
  refine wp_skip ?_
  refine x_norm ?_
  refine c_reg R23_3_l ?_
  refine p_cons (s_still p23_3_0 hE wn_none rfl (st_move rfl) ?_)
  clear hE a; intro a hE
  refine p_cons (s_still p23_3_1 hE wn_none rfl (st_nil rfl) ?_)
  clear hE a; intro a hE
  refine p_cons (s_still p23_3_2 hE wn_none rfl (st_fieldAddr Try.underlying38 rfl tS3 rfl rfl) ?_)
  clear hE a; intro a hE
  refine p_cons (s_still p23_3_3 hE wn_none rfl (st_load1 tA3 rfl ((blk_cell B_b 2).trans rfl)) ?_)
  clear hE a; intro a hE
  refine p_cons (s_still p23_3_4 hE wn_none rfl (st_assign rfl) ?_)
  clear hE a; intro a hE
  refine p_nil ?_
  refine x_norm ?_
  refine wp_ret ?_
  refine ret_one (v := Value.int .i64 s) rfl hE (.tmp rfl .nil) ?_
  exact ⟨rfl, K_0⟩
theorem R21_0_l : List.range (regOf Try.f21 0).size = [0] := by kernel_rfl
theorem R21_1_l : List.range (regOf Try.f21 1).size = [0, 1] := by kernel_rfl
theorem R21_2_l : List.range (regOf Try.f21 2).size = [0] := by kernel_rfl
theorem R21_3_l : List.range (regOf Try.f21 3).size = [0, 1, 2, 3, 4] := by kernel_rfl
theorem R21_4_l : List.range (regOf Try.f21 4).size = [0] := by kernel_rfl
theorem body21 : Try.f21.body = some (.seq (.region 0 (regOf Try.f21 0) false) (.seq (.seq (.region 1 (regOf Try.f21 1) false) (.cond (Operand.tmp 5) (.seq (.region 2 (regOf Try.f21 2) false) (.ret)) (.skip))) (.seq (.region 3 (regOf Try.f21 3) false) (.seq (.region 4 (regOf Try.f21 4) false) (.ret))))) := by kernel_rfl
theorem p21_0_0 : pj (regOf Try.f21 0) 0 = some (some 2, Op.assign (Operand.const (Value.pointer none)), 34, none) := by kernel_rfl
theorem p21_1_0 : pj (regOf Try.f21 1) 0 = some (some 4, Op.move (Operand.tmp 0), 34, none) := by kernel_rfl
theorem p21_1_1 : pj (regOf Try.f21 1) 1 = some (some 5, Op.binOp BinOp.eql 34 (Operand.tmp 4) (Operand.const (Value.pointer none)) 34, 4, none) := by kernel_rfl
theorem p21_3_0 : pj (regOf Try.f21 3) 0 = some (some 6, Op.move (Operand.tmp 0), 34, none) := by kernel_rfl
theorem p21_3_1 : pj (regOf Try.f21 3) 1 = some (some 7, Op.nilCheck (Operand.tmp 6), 0, none) := by kernel_rfl
theorem p21_3_2 : pj (regOf Try.f21 3) 2 = some (some 8, Op.load 38 (Operand.tmp 7), 38, none) := by kernel_rfl
theorem tA38 : (Try.prog.underlying 38).map aggD = some true := by kernel_rfl
theorem tS38 : (Try.prog.info? 38).map (·.size) = some 3 := by kernel_rfl
theorem p21_3_3 : pj (regOf Try.f21 3) 3 = some (some 3, Op.alloc 38, 0, none) := by kernel_rfl
theorem tZ38 : (Try.prog.info? 38).bind (·.zero) = some (Value.agg #[Value.float .f64 0, Value.bool false, Value.int .i64 0]) := by kernel_rfl
theorem p21_3_4 : pj (regOf Try.f21 3) 4 = some (none, Op.store 38 (Operand.tmp 3) (Operand.tmp 8), 0, none) := by kernel_rfl
theorem p21_4_0 : pj (regOf Try.f21 4) 0 = some (some 2, Op.assign (Operand.tmp 3), 34, none) := by kernel_rfl
set_option maxHeartbeats 4000000 in
theorem Copy_any (b m : Nat) (is : Bool) (s : Int) (w : World) (hb : w.heap[b]? = some (.cells #[.float .f64 m, .bool is, .int .i64 s] 38 (0, 0))) : Calls Try.prog 21 #[.pointer (some ⟨b, 0, none⟩)] w fun e w' => ∃ g, w.heap.size ≤ g ∧ e = .returned (.pointer (some ⟨g, 0, none⟩)) ∧ w'.heap[g]? = some (.cells #[.float .f64 m, .bool is, .int .i64 s] 38 (0, 0)) ∧ Kp w w' (fun _ => False) := by
  have K_0 := Kp.refl w (fun _ => False)
  have B_b := hb
  refine enter (args := [Value.pointer (some ⟨b, 0, none⟩)]) (n := 9) Try.func21 body21 rfl rfl rfl ?_
  intro a hE
  refine c_reg R21_0_l ?_
  refine p_cons (s_still p21_0_0 hE wn_none rfl (st_assign rfl) ?_)
  clear hE a; intro a hE
  refine p_nil ?_
  refine x_norm ?_
  refine wp_seq ?_
  refine c_reg R21_1_l ?_
  refine p_cons (s_still p21_1_0 hE wn_none rfl (st_move rfl) ?_)
  clear hE a; intro a hE
  refine p_cons (s_still p21_1_1 hE wn_none rfl (st_eqlP (b := false) tP34 rfl rfl rfl) ?_)
  clear hE a; intro a hE
  refine p_nil ?_
  refine x_norm ?_
  refine c_cond (t := false) hE rfl ?_
  refine wp_skip ?_
  refine x_norm ?_
  refine c_reg R21_3_l ?_
  refine p_cons (s_still p21_3_0 hE wn_none rfl (st_move rfl) ?_)
  clear hE a; intro a hE
  refine p_cons (s_still p21_3_1 hE wn_none rfl (st_nil rfl) ?_)
  clear hE a; intro a hE
  refine p_cons (s_still p21_3_2 hE wn_none rfl (st_loadN (off := 0) (k := 3) (vs := [Value.float .f64 m, Value.bool is, Value.int .i64 s]) tA38 tS38 rfl B_b rfl rfl) ?_)
  clear hE a; intro a hE
  refine p_cons (s_alloc p21_3_3 hE wn_none rfl tZ38 ?_)
  clear hE a; intro g1 w2 z3 B_g1 hk a hE
  replace B_g1 : w2.heap[g1]? = some (.cells #[Value.float .f64 0, Value.bool false, Value.int .i64 0] 38 (0, 0)) := B_g1
  have n_b_g1 : b ≠ g1 := ne_new B_b z3
  have z_0_g1 := Nat.le_trans K_0.kept.1 z3
  replace B_b := kp_blk B_b hk (fun h => h)
  replace K_0 := K_0.then_ hk (fun _ h => h.elim)
  clear hk
  refine p_cons (s_store (off := 0) (k := 3) (cs' := #[Value.float .f64 m, Value.bool is, Value.int .i64 s]) p21_3_4 hE wn_none tS38 rfl rfl rfl rfl B_g1 (Nat.le_of_ble_eq_true rfl) rfl ?_)
  intro w4 B_g1' hk
  replace B_b := kp_blk B_b hk n_b_g1
  replace K_0 := K_0.then_ hk (fun k h => by rw [show k = g1 from h]; exact Or.inr z_0_g1)
  replace B_g1 := B_g1'
  clear hk
  refine p_nil ?_
  refine x_norm ?_
  refine c_reg R21_4_l ?_
  refine p_cons (s_still p21_4_0 hE wn_none rfl (st_assign rfl) ?_)
  clear hE a; intro a hE
  refine p_nil ?_
  refine x_norm ?_
  refine wp_ret ?_
  refine ret_one (v := Value.pointer (some ⟨g1, 0, none⟩)) rfl hE (.tmp rfl .nil) ?_
  exact ⟨g1, z_0_g1, rfl, B_g1, K_0⟩
theorem R12_0_l : List.range (regOf Try.f12 0).size = [0] := by kernel_rfl
theorem R12_1_l : List.range (regOf Try.f12 1).size = [0, 1, 2, 3, 4, 5] := by kernel_rfl
theorem R12_2_l : List.range (regOf Try.f12 2).size = [0, 1, 2, 3, 4, 5] := by kernel_rfl
theorem R12_3_l : List.range (regOf Try.f12 3).size = [0, 1, 2, 3, 4, 5, 6] := by kernel_rfl
theorem R12_4_l : List.range (regOf Try.f12 4).size = [0, 1, 2, 3, 4, 5, 6] := by kernel_rfl
theorem R12_5_l : List.range (regOf Try.f12 5).size = [0] := by kernel_rfl
theorem R12_6_l : List.range (regOf Try.f12 6).size = [0, 1, 2, 3] := by kernel_rfl
theorem R12_7_l : List.range (regOf Try.f12 7).size = [0, 1, 2, 3, 4, 5] := by kernel_rfl
theorem R12_8_l : List.range (regOf Try.f12 8).size = [0, 1, 2, 3, 4, 5, 6, 7, 8, 9, 10, 11, 12, 13, 14, 15, 16, 17, 18, 19, 20, 21, 22, 23, 24, 25, 26, 27, 28, 29, 30, 31, 32, 33, 34, 35, 36, 37, 38, 39, 40, 41, 42, 43, 44, 45, 46] := by kernel_rfl
theorem body12 : Try.f12.body = some (.seq (.region 0 (regOf Try.f12 0) false) (.seq (.region 1 (regOf Try.f12 1) false) (.seq (.region 2 (regOf Try.f12 2) false) (.seq (.region 3 (regOf Try.f12 3) false) (.seq (.region 4 (regOf Try.f12 4) false) (.seq (.region 5 (regOf Try.f12 5) false) (.seq (.region 6 (regOf Try.f12 6) false) (.seq (.region 7 (regOf Try.f12 7) false) (.seq (.region 8 (regOf Try.f12 8) false) (.ret)))))))))) := by kernel_rfl
theorem p12_0_0 : pj (regOf Try.f12 0) 0 = some (some 0, Op.assign (Operand.const (Value.bool false)), 4, none) := by kernel_rfl
theorem p12_1_0 : pj (regOf Try.f12 1) 0 = some (some 15, Op.call { callee := Callee.value (Operand.func 10), args := #[Operand.const (Value.float FloatKind.f64 4607182418800017408)], argTypes := #[22] }, 24, none) := by kernel_rfl
theorem p12_1_1 : pj (regOf Try.f12 1) 1 = some (some 14, Op.move (Operand.tmp 15), 24, none) := by kernel_rfl
theorem p12_1_2 : pj (regOf Try.f12 1) 2 = some (some 16, Op.extract (Operand.tmp 14) 0, 3, none) := by kernel_rfl
theorem p12_1_3 : pj (regOf Try.f12 1) 3 = some (some 17, Op.extract (Operand.tmp 14) 1, 23, none) := by kernel_rfl
theorem p12_1_4 : pj (regOf Try.f12 1) 4 = some (some 1, Op.assign (Operand.tmp 16), 3, none) := by kernel_rfl
theorem p12_1_5 : pj (regOf Try.f12 1) 5 = some (some 2, Op.assign (Operand.tmp 17), 23, none) := by kernel_rfl
theorem p12_2_0 : pj (regOf Try.f12 2) 0 = some (some 19, Op.call { callee := Callee.value (Operand.func 10), args := #[Operand.const (Value.float FloatKind.f64 4609434218613702656)], argTypes := #[22] }, 24, none) := by kernel_rfl
theorem p12_2_1 : pj (regOf Try.f12 2) 1 = some (some 18, Op.move (Operand.tmp 19), 24, none) := by kernel_rfl
theorem p12_2_2 : pj (regOf Try.f12 2) 2 = some (some 20, Op.extract (Operand.tmp 18) 0, 3, none) := by kernel_rfl
theorem p12_2_3 : pj (regOf Try.f12 2) 3 = some (some 21, Op.extract (Operand.tmp 18) 1, 23, none) := by kernel_rfl
theorem p12_2_4 : pj (regOf Try.f12 2) 4 = some (some 3, Op.assign (Operand.tmp 20), 3, none) := by kernel_rfl
theorem p12_2_5 : pj (regOf Try.f12 2) 5 = some (some 4, Op.assign (Operand.tmp 21), 23, none) := by kernel_rfl
theorem p12_3_0 : pj (regOf Try.f12 3) 0 = some (some 23, Op.call { callee := Callee.value (Operand.func 44), args := #[], argTypes := #[] }, 22, none) := by kernel_rfl
theorem cl44 : callable Try.f44 = true := by kernel_rfl
theorem p12_3_1 : pj (regOf Try.f12 3) 1 = some (some 24, Op.call { callee := Callee.value (Operand.func 10), args := #[Operand.tmp 23], argTypes := #[22] }, 24, none) := by kernel_rfl
theorem p12_3_2 : pj (regOf Try.f12 3) 2 = some (some 22, Op.move (Operand.tmp 24), 24, none) := by kernel_rfl
theorem p12_3_3 : pj (regOf Try.f12 3) 3 = some (some 25, Op.extract (Operand.tmp 22) 0, 3, none) := by kernel_rfl
theorem p12_3_4 : pj (regOf Try.f12 3) 4 = some (some 26, Op.extract (Operand.tmp 22) 1, 23, none) := by kernel_rfl
theorem p12_3_5 : pj (regOf Try.f12 3) 5 = some (some 5, Op.assign (Operand.tmp 25), 3, none) := by kernel_rfl
theorem p12_3_6 : pj (regOf Try.f12 3) 6 = some (some 6, Op.assign (Operand.tmp 26), 23, none) := by kernel_rfl
theorem p12_4_0 : pj (regOf Try.f12 4) 0 = some (some 28, Op.call { callee := Callee.value (Operand.func 45), args := #[Operand.const (Value.int IntKind.i64 1)], argTypes := #[3] }, 22, none) := by kernel_rfl
theorem cl45 : callable Try.f45 = true := by kernel_rfl
theorem p12_4_1 : pj (regOf Try.f12 4) 1 = some (some 29, Op.call { callee := Callee.value (Operand.func 10), args := #[Operand.tmp 28], argTypes := #[22] }, 24, none) := by kernel_rfl
theorem p12_4_2 : pj (regOf Try.f12 4) 2 = some (some 27, Op.move (Operand.tmp 29), 24, none) := by kernel_rfl
theorem p12_4_3 : pj (regOf Try.f12 4) 3 = some (some 30, Op.extract (Operand.tmp 27) 0, 3, none) := by kernel_rfl
theorem p12_4_4 : pj (regOf Try.f12 4) 4 = some (some 31, Op.extract (Operand.tmp 27) 1, 23, none) := by kernel_rfl
theorem p12_4_5 : pj (regOf Try.f12 4) 5 = some (some 7, Op.assign (Operand.tmp 30), 3, none) := by kernel_rfl
theorem p12_4_6 : pj (regOf Try.f12 4) 6 = some (some 8, Op.assign (Operand.tmp 31), 23, none) := by kernel_rfl
theorem p12_5_0 : pj (regOf Try.f12 5) 0 = some (some 9, Op.alloc 38, 0, none) := by kernel_rfl
theorem p12_6_0 : pj (regOf Try.f12 6) 0 = some (some 32, Op.call { callee := Callee.value (Operand.func 17), args := #[Operand.tmp 9, Operand.const (Value.int IntKind.i64 1)], argTypes := #[38, 3] }, 23, none) := by kernel_rfl
theorem cl17 : callable Try.f17 = true := by kernel_rfl
theorem p12_6_1 : pj (regOf Try.f12 6) 1 = some (some 33, Op.call { callee := Callee.value (Operand.func 17), args := #[Operand.tmp 9, Operand.const (Value.int IntKind.i64 3)], argTypes := #[38, 3] }, 23, none) := by kernel_rfl
theorem p12_6_2 : pj (regOf Try.f12 6) 2 = some (some 10, Op.assign (Operand.tmp 32), 23, none) := by kernel_rfl
theorem p12_6_3 : pj (regOf Try.f12 6) 3 = some (some 11, Op.assign (Operand.tmp 33), 23, none) := by kernel_rfl
theorem p12_7_0 : pj (regOf Try.f12 7) 0 = some (some 35, Op.call { callee := Callee.value (Operand.func 22), args := #[Operand.tmp 9], argTypes := #[38] }, 28, none) := by kernel_rfl
theorem p12_7_1 : pj (regOf Try.f12 7) 1 = some (some 34, Op.move (Operand.tmp 35), 28, none) := by kernel_rfl
theorem p12_7_2 : pj (regOf Try.f12 7) 2 = some (some 36, Op.extract (Operand.tmp 34) 0, 22, none) := by kernel_rfl
theorem p12_7_3 : pj (regOf Try.f12 7) 3 = some (some 37, Op.extract (Operand.tmp 34) 1, 23, none) := by kernel_rfl
theorem p12_7_4 : pj (regOf Try.f12 7) 4 = some (some 12, Op.assign (Operand.tmp 36), 22, none) := by kernel_rfl
theorem p12_7_5 : pj (regOf Try.f12 7) 5 = some (some 13, Op.assign (Operand.tmp 37), 23, none) := by kernel_rfl
theorem p12_8_0 : pj (regOf Try.f12 8) 0 = some (some 38, Op.move (Operand.tmp 2), 23, none) := by kernel_rfl
theorem p12_8_1 : pj (regOf Try.f12 8) 1 = some (some 39, Op.binOp BinOp.eql 23 (Operand.tmp 38) (Operand.const (Value.int IntKind.i64 0)) 23, 4, none) := by kernel_rfl
theorem p12_8_2 : pj (regOf Try.f12 8) 2 = some (some 40, Op.move (Operand.tmp 39), 4, none) := by kernel_rfl
theorem p12_8_3 : pj (regOf Try.f12 8) 3 = some (some 41, Op.move (Operand.tmp 1), 3, some (2, true)) := by kernel_rfl
theorem g12_8_2 : dstOf (regOf Try.f12 8) 2 = some 40 := by kernel_rfl
theorem p12_8_4 : pj (regOf Try.f12 8) 4 = some (some 42, Op.binOp BinOp.eql 3 (Operand.tmp 41) (Operand.const (Value.int IntKind.i64 128)) 3, 4, some (2, true)) := by kernel_rfl
theorem p12_8_5 : pj (regOf Try.f12 8) 5 = some (some 43, Op.pick (Operand.tmp 40) (Operand.tmp 42) (Operand.const (Value.bool false)), 4, none) := by kernel_rfl
theorem p12_8_6 : pj (regOf Try.f12 8) 6 = some (some 44, Op.move (Operand.tmp 43), 4, none) := by kernel_rfl
theorem p12_8_7 : pj (regOf Try.f12 8) 7 = some (some 45, Op.move (Operand.tmp 4), 23, some (6, true)) := by kernel_rfl
theorem g12_8_6 : dstOf (regOf Try.f12 8) 6 = some 44 := by kernel_rfl
theorem p12_8_8 : pj (regOf Try.f12 8) 8 = some (some 46, Op.binOp BinOp.eql 23 (Operand.tmp 45) (Operand.const (Value.int IntKind.i64 0)) 23, 4, some (6, true)) := by kernel_rfl
theorem p12_8_9 : pj (regOf Try.f12 8) 9 = some (some 47, Op.pick (Operand.tmp 44) (Operand.tmp 46) (Operand.const (Value.bool false)), 4, none) := by kernel_rfl
theorem p12_8_10 : pj (regOf Try.f12 8) 10 = some (some 48, Op.move (Operand.tmp 47), 4, none) := by kernel_rfl
theorem p12_8_11 : pj (regOf Try.f12 8) 11 = some (some 49, Op.move (Operand.tmp 3), 3, some (10, true)) := by kernel_rfl
theorem g12_8_10 : dstOf (regOf Try.f12 8) 10 = some 48 := by kernel_rfl
theorem p12_8_12 : pj (regOf Try.f12 8) 12 = some (some 50, Op.binOp BinOp.eql 3 (Operand.tmp 49) (Operand.const (Value.int IntKind.i64 192)) 3, 4, some (10, true)) := by kernel_rfl
theorem p12_8_13 : pj (regOf Try.f12 8) 13 = some (some 51, Op.pick (Operand.tmp 48) (Operand.tmp 50) (Operand.const (Value.bool false)), 4, none) := by kernel_rfl
theorem p12_8_14 : pj (regOf Try.f12 8) 14 = some (some 52, Op.move (Operand.tmp 51), 4, none) := by kernel_rfl
theorem p12_8_15 : pj (regOf Try.f12 8) 15 = some (some 53, Op.move (Operand.tmp 6), 23, some (14, true)) := by kernel_rfl
theorem g12_8_14 : dstOf (regOf Try.f12 8) 14 = some 52 := by kernel_rfl
theorem p12_8_16 : pj (regOf Try.f12 8) 16 = some (some 54, Op.binOp BinOp.eql 23 (Operand.tmp 53) (Operand.const (Value.int IntKind.i64 1)) 23, 4, some (14, true)) := by kernel_rfl
theorem p12_8_17 : pj (regOf Try.f12 8) 17 = some (some 55, Op.pick (Operand.tmp 52) (Operand.tmp 54) (Operand.const (Value.bool false)), 4, none) := by kernel_rfl
theorem p12_8_18 : pj (regOf Try.f12 8) 18 = some (some 56, Op.move (Operand.tmp 55), 4, none) := by kernel_rfl
theorem p12_8_19 : pj (regOf Try.f12 8) 19 = some (some 57, Op.move (Operand.tmp 8), 23, some (18, true)) := by kernel_rfl
theorem g12_8_18 : dstOf (regOf Try.f12 8) 18 = some 56 := by kernel_rfl
theorem p12_8_20 : pj (regOf Try.f12 8) 20 = some (some 58, Op.binOp BinOp.eql 23 (Operand.tmp 57) (Operand.const (Value.int IntKind.i64 0)) 23, 4, some (18, true)) := by kernel_rfl
theorem p12_8_21 : pj (regOf Try.f12 8) 21 = some (some 59, Op.pick (Operand.tmp 56) (Operand.tmp 58) (Operand.const (Value.bool false)), 4, none) := by kernel_rfl
theorem p12_8_22 : pj (regOf Try.f12 8) 22 = some (some 60, Op.move (Operand.tmp 59), 4, none) := by kernel_rfl
theorem p12_8_23 : pj (regOf Try.f12 8) 23 = some (some 61, Op.move (Operand.tmp 7), 3, some (22, true)) := by kernel_rfl
theorem g12_8_22 : dstOf (regOf Try.f12 8) 22 = some 60 := by kernel_rfl
theorem p12_8_24 : pj (regOf Try.f12 8) 24 = some (some 62, Op.binOp BinOp.eql 3 (Operand.tmp 61) (Operand.const (Value.int IntKind.i64 65535)) 3, 4, some (22, true)) := by kernel_rfl
theorem p12_8_25 : pj (regOf Try.f12 8) 25 = some (some 63, Op.pick (Operand.tmp 60) (Operand.tmp 62) (Operand.const (Value.bool false)), 4, none) := by kernel_rfl
theorem p12_8_26 : pj (regOf Try.f12 8) 26 = some (some 64, Op.move (Operand.tmp 63), 4, none) := by kernel_rfl
theorem p12_8_27 : pj (regOf Try.f12 8) 27 = some (some 65, Op.move (Operand.tmp 10), 23, some (26, true)) := by kernel_rfl
theorem g12_8_26 : dstOf (regOf Try.f12 8) 26 = some 64 := by kernel_rfl
theorem p12_8_28 : pj (regOf Try.f12 8) 28 = some (some 66, Op.binOp BinOp.eql 23 (Operand.tmp 65) (Operand.const (Value.int IntKind.i64 0)) 23, 4, some (26, true)) := by kernel_rfl
theorem p12_8_29 : pj (regOf Try.f12 8) 29 = some (some 67, Op.pick (Operand.tmp 64) (Operand.tmp 66) (Operand.const (Value.bool false)), 4, none) := by kernel_rfl
theorem p12_8_30 : pj (regOf Try.f12 8) 30 = some (some 68, Op.move (Operand.tmp 67), 4, none) := by kernel_rfl
theorem p12_8_31 : pj (regOf Try.f12 8) 31 = some (some 69, Op.move (Operand.tmp 11), 23, some (30, true)) := by kernel_rfl
theorem g12_8_30 : dstOf (regOf Try.f12 8) 30 = some 68 := by kernel_rfl
theorem p12_8_32 : pj (regOf Try.f12 8) 32 = some (some 70, Op.binOp BinOp.eql 23 (Operand.tmp 69) (Operand.const (Value.int IntKind.i64 0)) 23, 4, some (30, true)) := by kernel_rfl
theorem p12_8_33 : pj (regOf Try.f12 8) 33 = some (some 71, Op.pick (Operand.tmp 68) (Operand.tmp 70) (Operand.const (Value.bool false)), 4, none) := by kernel_rfl
theorem p12_8_34 : pj (regOf Try.f12 8) 34 = some (some 72, Op.move (Operand.tmp 71), 4, none) := by kernel_rfl
theorem p12_8_35 : pj (regOf Try.f12 8) 35 = some (some 73, Op.move (Operand.tmp 13), 23, some (34, true)) := by kernel_rfl
theorem g12_8_34 : dstOf (regOf Try.f12 8) 34 = some 72 := by kernel_rfl
theorem p12_8_36 : pj (regOf Try.f12 8) 36 = some (some 74, Op.binOp BinOp.eql 23 (Operand.tmp 73) (Operand.const (Value.int IntKind.i64 0)) 23, 4, some (34, true)) := by kernel_rfl
theorem p12_8_37 : pj (regOf Try.f12 8) 37 = some (some 75, Op.pick (Operand.tmp 72) (Operand.tmp 74) (Operand.const (Value.bool false)), 4, none) := by kernel_rfl
theorem p12_8_38 : pj (regOf Try.f12 8) 38 = some (some 76, Op.move (Operand.tmp 75), 4, none) := by kernel_rfl
theorem p12_8_39 : pj (regOf Try.f12 8) 39 = some (some 77, Op.move (Operand.tmp 12), 22, some (38, true)) := by kernel_rfl
theorem g12_8_38 : dstOf (regOf Try.f12 8) 38 = some 76 := by kernel_rfl
theorem p12_8_40 : pj (regOf Try.f12 8) 40 = some (some 78, Op.binOp BinOp.eql 22 (Operand.tmp 77) (Operand.const (Value.float FloatKind.f64 4608308318706860032)) 22, 4, some (38, true)) := by kernel_rfl
theorem p12_8_41 : pj (regOf Try.f12 8) 41 = some (some 79, Op.pick (Operand.tmp 76) (Operand.tmp 78) (Operand.const (Value.bool false)), 4, none) := by kernel_rfl
theorem p12_8_42 : pj (regOf Try.f12 8) 42 = some (some 80, Op.move (Operand.tmp 79), 4, none) := by kernel_rfl
theorem p12_8_43 : pj (regOf Try.f12 8) 43 = some (some 81, Op.call { callee := Callee.value (Operand.func 24), args := #[Operand.tmp 9], argTypes := #[38] }, 3, some (42, true)) := by kernel_rfl
theorem g12_8_42 : dstOf (regOf Try.f12 8) 42 = some 80 := by kernel_rfl
theorem cl24 : callable Try.f24 = true := by kernel_rfl
theorem p12_8_44 : pj (regOf Try.f12 8) 44 = some (some 82, Op.binOp BinOp.eql 3 (Operand.tmp 81) (Operand.const (Value.int IntKind.i64 160)) 3, 4, some (42, true)) := by kernel_rfl
theorem p12_8_45 : pj (regOf Try.f12 8) 45 = some (some 83, Op.pick (Operand.tmp 80) (Operand.tmp 82) (Operand.const (Value.bool false)), 4, none) := by kernel_rfl
theorem p12_8_46 : pj (regOf Try.f12 8) 46 = some (some 0, Op.assign (Operand.tmp 83), 4, none) := by kernel_rfl
set_option maxHeartbeats 4000000 in
theorem known_any (w : World) : Calls Try.prog 12 #[] w fun e w' => e = .returned (.bool true) ∧ Kp w w' (fun _ => False) := by
  have K_0 := Kp.refl w (fun _ => False)
  refine enter (args := []) (n := 84) Try.func12 body12 rfl rfl rfl ?_
  intro a hE
  refine c_reg R12_0_l ?_
  refine p_cons (s_still p12_0_0 hE wn_none rfl (st_assign rfl) ?_)
  clear hE a; intro a hE
  refine p_nil ?_
  refine x_norm ?_
  refine c_reg R12_1_l ?_
  refine p_cons (s_call (xs := [Operand.const (Value.float FloatKind.f64 4607182418800017408)]) (args := [Value.float .f64 4607182418800017408]) p12_1_0 hE wn_none rfl rfl Try.func10 cl10 (cost_any 4607182418800017408 (by decide) 128 0 (by decide +kernel) (by decide +kernel) _) ?_)
  rintro e w1 ⟨rfl, hk⟩
  replace K_0 := K_0.then_ hk (fun _ h => h.elim)
  refine ⟨_, rfl, ?_⟩
  clear hE a; intro a hE
  refine p_cons (s_still p12_1_1 hE wn_none rfl (st_move rfl) ?_)
  clear hE a; intro a hE
  refine p_cons (s_still p12_1_2 hE wn_none rfl (st_extract rfl rfl) ?_)
  clear hE a; intro a hE
  refine p_cons (s_still p12_1_3 hE wn_none rfl (st_extract rfl rfl) ?_)
  clear hE a; intro a hE
  refine p_cons (s_still p12_1_4 hE wn_none rfl (st_assign rfl) ?_)
  clear hE a; intro a hE
  refine p_cons (s_still p12_1_5 hE wn_none rfl (st_assign rfl) ?_)
  clear hE a; intro a hE
  refine p_nil ?_
  refine x_norm ?_
  refine c_reg R12_2_l ?_
  refine p_cons (s_call (xs := [Operand.const (Value.float FloatKind.f64 4609434218613702656)]) (args := [Value.float .f64 4609434218613702656]) p12_2_0 hE wn_none rfl rfl Try.func10 cl10 (cost_any 4609434218613702656 (by decide) 192 0 (by decide +kernel) (by decide +kernel) _) ?_)
  rintro e w2 ⟨rfl, hk⟩
  replace K_0 := K_0.then_ hk (fun _ h => h.elim)
  refine ⟨_, rfl, ?_⟩
  clear hE a; intro a hE
  refine p_cons (s_still p12_2_1 hE wn_none rfl (st_move rfl) ?_)
  clear hE a; intro a hE
  refine p_cons (s_still p12_2_2 hE wn_none rfl (st_extract rfl rfl) ?_)
  clear hE a; intro a hE
  refine p_cons (s_still p12_2_3 hE wn_none rfl (st_extract rfl rfl) ?_)
  clear hE a; intro a hE
  refine p_cons (s_still p12_2_4 hE wn_none rfl (st_assign rfl) ?_)
  clear hE a; intro a hE
  refine p_cons (s_still p12_2_5 hE wn_none rfl (st_assign rfl) ?_)
  clear hE a; intro a hE
  refine p_nil ?_
  refine x_norm ?_
  refine c_reg R12_3_l ?_
  refine p_cons (s_call (xs := []) (args := []) p12_3_0 hE wn_none rfl rfl Try.func44 cl44 (nan_any  _) ?_)
  rintro e w3 ⟨rfl, hk⟩
  replace K_0 := K_0.then_ hk (fun _ h => h.elim)
  refine ⟨_, rfl, ?_⟩
  clear hE a; intro a hE
  refine p_cons (s_call (xs := [Operand.tmp 23]) (args := [Value.float .f64 9221120237041090561]) p12_3_1 hE wn_none rfl rfl Try.func10 cl10 (cost_any 9221120237041090561 (by decide) 0 1 (by decide +kernel) (by decide +kernel) _) ?_)
  rintro e w4 ⟨rfl, hk⟩
  replace K_0 := K_0.then_ hk (fun _ h => h.elim)
  refine ⟨_, rfl, ?_⟩
  clear hE a; intro a hE
  refine p_cons (s_still p12_3_2 hE wn_none rfl (st_move rfl) ?_)
  clear hE a; intro a hE
  refine p_cons (s_still p12_3_3 hE wn_none rfl (st_extract rfl rfl) ?_)
  clear hE a; intro a hE
  refine p_cons (s_still p12_3_4 hE wn_none rfl (st_extract rfl rfl) ?_)
  clear hE a; intro a hE
  refine p_cons (s_still p12_3_5 hE wn_none rfl (st_assign rfl) ?_)
  clear hE a; intro a hE
  refine p_cons (s_still p12_3_6 hE wn_none rfl (st_assign rfl) ?_)
  clear hE a; intro a hE
  refine p_nil ?_
  refine x_norm ?_
  refine c_reg R12_4_l ?_
  refine p_cons (s_call (xs := [Operand.const (Value.int IntKind.i64 1)]) (args := [Value.int .i64 1]) p12_4_0 hE wn_none rfl rfl Try.func45 cl45 (inf_any  _) ?_)
  rintro e w5 ⟨rfl, hk⟩
  replace K_0 := K_0.then_ hk (fun _ h => h.elim)
  refine ⟨_, rfl, ?_⟩
  clear hE a; intro a hE
  refine p_cons (s_call (xs := [Operand.tmp 28]) (args := [Value.float .f64 9218868437227405312]) p12_4_1 hE wn_none rfl rfl Try.func10 cl10 (cost_any 9218868437227405312 (by decide) 65535 0 (by decide +kernel) (by decide +kernel) _) ?_)
  rintro e w6 ⟨rfl, hk⟩
  replace K_0 := K_0.then_ hk (fun _ h => h.elim)
  refine ⟨_, rfl, ?_⟩
  clear hE a; intro a hE
  refine p_cons (s_still p12_4_2 hE wn_none rfl (st_move rfl) ?_)
  clear hE a; intro a hE
  refine p_cons (s_still p12_4_3 hE wn_none rfl (st_extract rfl rfl) ?_)
  clear hE a; intro a hE
  refine p_cons (s_still p12_4_4 hE wn_none rfl (st_extract rfl rfl) ?_)
  clear hE a; intro a hE
  refine p_cons (s_still p12_4_5 hE wn_none rfl (st_assign rfl) ?_)
  clear hE a; intro a hE
  refine p_cons (s_still p12_4_6 hE wn_none rfl (st_assign rfl) ?_)
  clear hE a; intro a hE
  refine p_nil ?_
  refine x_norm ?_
  refine c_reg R12_5_l ?_
  refine p_cons (s_alloc p12_5_0 hE wn_none rfl tZ38 ?_)
  clear hE a; intro g7 w8 z9 B_g7 hk a hE
  replace B_g7 : w8.heap[g7]? = some (.cells #[Value.float .f64 0, Value.bool false, Value.int .i64 0] 38 (0, 0)) := B_g7
  have z_0_g7 := Nat.le_trans K_0.kept.1 z9
  replace K_0 := K_0.then_ hk (fun _ h => h.elim)
  clear hk
  refine p_nil ?_
  refine x_norm ?_
  refine c_reg R12_6_l ?_
  refine p_cons (s_call (xs := [Operand.tmp 9, Operand.const (Value.int IntKind.i64 1)]) (args := [Value.pointer (some ⟨g7, 0, none⟩), Value.int .i64 1]) p12_6_0 hE wn_none rfl rfl Try.func17 cl17 (Sample_ok g7 0 1 false 0 (fun h => by cases h) (by decide) (by decide) (by decide) _ B_g7) ?_)
  rintro e w10 ⟨rfl, B_g7', hk⟩
  rw [show moveF false 0 1 = 4607182418800017408 from by decide +kernel, show senF 0 ((1 : Nat) : Int) = 1 from by decide +kernel] at B_g7'
  replace K_0 := K_0.then_ hk (fun k h => by rw [show k = g7 from h]; exact Or.inr z_0_g7)
  replace B_g7 : w10.heap[g7]? = some (.cells #[Value.float .f64 4607182418800017408, Value.bool true, Value.int .i64 1] 38 (0, 0)) := B_g7'
  clear B_g7'
  refine ⟨_, rfl, ?_⟩
  clear hE a; intro a hE
  refine p_cons (s_call (xs := [Operand.tmp 9, Operand.const (Value.int IntKind.i64 3)]) (args := [Value.pointer (some ⟨g7, 0, none⟩), Value.int .i64 3]) p12_6_1 hE wn_none rfl rfl Try.func17 cl17 (Sample_ok g7 4607182418800017408 3 true 1 (fun _ => by decide) (by decide) (by decide) (by decide) _ B_g7) ?_)
  rintro e w11 ⟨rfl, B_g7', hk⟩
  rw [show moveF true 4607182418800017408 3 = 4608308318706860032 from by decide +kernel, show senF 1 ((3 : Nat) : Int) = 4 from by decide +kernel] at B_g7'
  replace K_0 := K_0.then_ hk (fun k h => by rw [show k = g7 from h]; exact Or.inr z_0_g7)
  replace B_g7 : w11.heap[g7]? = some (.cells #[Value.float .f64 4608308318706860032, Value.bool true, Value.int .i64 4] 38 (0, 0)) := B_g7'
  clear B_g7'
  refine ⟨_, rfl, ?_⟩
  clear hE a; intro a hE
  refine p_cons (s_still p12_6_2 hE wn_none rfl (st_assign rfl) ?_)
  clear hE a; intro a hE
  refine p_cons (s_still p12_6_3 hE wn_none rfl (st_assign rfl) ?_)
  clear hE a; intro a hE
  refine p_nil ?_
  refine x_norm ?_
  refine c_reg R12_7_l ?_
  refine p_cons (s_call (xs := [Operand.tmp 9]) (args := [Value.pointer (some ⟨g7, 0, none⟩)]) p12_7_0 hE wn_none rfl rfl Try.func22 cl22 (Mean_true g7 4608308318706860032 4 _ B_g7) ?_)
  rintro e w12 ⟨rfl, hk⟩
  replace B_g7 := kp_blk B_g7 hk (fun h => h)
  replace K_0 := K_0.then_ hk (fun _ h => h.elim)
  refine ⟨_, rfl, ?_⟩
  clear hE a; intro a hE
  refine p_cons (s_still p12_7_1 hE wn_none rfl (st_move rfl) ?_)
  clear hE a; intro a hE
  refine p_cons (s_still p12_7_2 hE wn_none rfl (st_extract rfl rfl) ?_)
  clear hE a; intro a hE
  refine p_cons (s_still p12_7_3 hE wn_none rfl (st_extract rfl rfl) ?_)
  clear hE a; intro a hE
  refine p_cons (s_still p12_7_4 hE wn_none rfl (st_assign rfl) ?_)
  clear hE a; intro a hE
  refine p_cons (s_still p12_7_5 hE wn_none rfl (st_assign rfl) ?_)
  clear hE a; intro a hE
  refine p_nil ?_
  refine x_norm ?_
  refine c_reg R12_8_l ?_
  refine p_cons (s_still p12_8_0 hE wn_none rfl (st_move rfl) ?_)
  clear hE a; intro a hE
  refine p_cons (s_still p12_8_1 hE wn_none rfl (st_eql (b := true) rfl rfl (by decide)) ?_)
  clear hE a; intro a hE
  refine p_cons (s_still p12_8_2 hE wn_none rfl (st_move rfl) ?_)
  clear hE a; intro a hE
  refine p_cons (s_still p12_8_3 hE (wn_some g12_8_2 rfl rfl) rfl (st_move rfl) ?_)
  clear hE a; intro a hE
  refine p_cons (s_still p12_8_4 hE (wn_some g12_8_2 rfl rfl) rfl (st_eql (b := true) rfl rfl (by decide)) ?_)
  clear hE a; intro a hE
  refine p_cons (s_still p12_8_5 hE wn_none rfl (st_pick rfl rfl) ?_)
  clear hE a; intro a hE
  refine p_cons (s_still p12_8_6 hE wn_none rfl (st_move rfl) ?_)
  clear hE a; intro a hE
  refine p_cons (s_still p12_8_7 hE (wn_some g12_8_6 rfl rfl) rfl (st_move rfl) ?_)
  clear hE a; intro a hE
  refine p_cons (s_still p12_8_8 hE (wn_some g12_8_6 rfl rfl) rfl (st_eql (b := true) rfl rfl (by decide)) ?_)
  clear hE a; intro a hE
  refine p_cons (s_still p12_8_9 hE wn_none rfl (st_pick rfl rfl) ?_)
  clear hE a; intro a hE
  refine p_cons (s_still p12_8_10 hE wn_none rfl (st_move rfl) ?_)
  clear hE a; intro a hE
  refine p_cons (s_still p12_8_11 hE (wn_some g12_8_10 rfl rfl) rfl (st_move rfl) ?_)
  clear hE a; intro a hE
  refine p_cons (s_still p12_8_12 hE (wn_some g12_8_10 rfl rfl) rfl (st_eql (b := true) rfl rfl (by decide)) ?_)
  clear hE a; intro a hE
  refine p_cons (s_still p12_8_13 hE wn_none rfl (st_pick rfl rfl) ?_)
  clear hE a; intro a hE
  refine p_cons (s_still p12_8_14 hE wn_none rfl (st_move rfl) ?_)
  clear hE a; intro a hE
  refine p_cons (s_still p12_8_15 hE (wn_some g12_8_14 rfl rfl) rfl (st_move rfl) ?_)
  clear hE a; intro a hE
  refine p_cons (s_still p12_8_16 hE (wn_some g12_8_14 rfl rfl) rfl (st_eql (b := true) rfl rfl (by decide)) ?_)
  clear hE a; intro a hE
  refine p_cons (s_still p12_8_17 hE wn_none rfl (st_pick rfl rfl) ?_)
  clear hE a; intro a hE
  refine p_cons (s_still p12_8_18 hE wn_none rfl (st_move rfl) ?_)
  clear hE a; intro a hE
  refine p_cons (s_still p12_8_19 hE (wn_some g12_8_18 rfl rfl) rfl (st_move rfl) ?_)
  clear hE a; intro a hE
  refine p_cons (s_still p12_8_20 hE (wn_some g12_8_18 rfl rfl) rfl (st_eql (b := true) rfl rfl (by decide)) ?_)
  clear hE a; intro a hE
  refine p_cons (s_still p12_8_21 hE wn_none rfl (st_pick rfl rfl) ?_)
  clear hE a; intro a hE
  refine p_cons (s_still p12_8_22 hE wn_none rfl (st_move rfl) ?_)
  clear hE a; intro a hE
  refine p_cons (s_still p12_8_23 hE (wn_some g12_8_22 rfl rfl) rfl (st_move rfl) ?_)
  clear hE a; intro a hE
  refine p_cons (s_still p12_8_24 hE (wn_some g12_8_22 rfl rfl) rfl (st_eql (b := true) rfl rfl (by decide)) ?_)
  clear hE a; intro a hE
  refine p_cons (s_still p12_8_25 hE wn_none rfl (st_pick rfl rfl) ?_)
  clear hE a; intro a hE
  refine p_cons (s_still p12_8_26 hE wn_none rfl (st_move rfl) ?_)
  clear hE a; intro a hE
  refine p_cons (s_still p12_8_27 hE (wn_some g12_8_26 rfl rfl) rfl (st_move rfl) ?_)
  clear hE a; intro a hE
  refine p_cons (s_still p12_8_28 hE (wn_some g12_8_26 rfl rfl) rfl (st_eql (b := true) rfl rfl (by decide)) ?_)
  clear hE a; intro a hE
  refine p_cons (s_still p12_8_29 hE wn_none rfl (st_pick rfl rfl) ?_)
  clear hE a; intro a hE
  refine p_cons (s_still p12_8_30 hE wn_none rfl (st_move rfl) ?_)
  clear hE a; intro a hE
  refine p_cons (s_still p12_8_31 hE (wn_some g12_8_30 rfl rfl) rfl (st_move rfl) ?_)
  clear hE a; intro a hE
  refine p_cons (s_still p12_8_32 hE (wn_some g12_8_30 rfl rfl) rfl (st_eql (b := true) rfl rfl (by decide)) ?_)
  clear hE a; intro a hE
  refine p_cons (s_still p12_8_33 hE wn_none rfl (st_pick rfl rfl) ?_)
  clear hE a; intro a hE
  refine p_cons (s_still p12_8_34 hE wn_none rfl (st_move rfl) ?_)
  clear hE a; intro a hE
  refine p_cons (s_still p12_8_35 hE (wn_some g12_8_34 rfl rfl) rfl (st_move rfl) ?_)
  clear hE a; intro a hE
  refine p_cons (s_still p12_8_36 hE (wn_some g12_8_34 rfl rfl) rfl (st_eql (b := true) rfl rfl (by decide)) ?_)
  clear hE a; intro a hE
  refine p_cons (s_still p12_8_37 hE wn_none rfl (st_pick rfl rfl) ?_)
  clear hE a; intro a hE
  refine p_cons (s_still p12_8_38 hE wn_none rfl (st_move rfl) ?_)
  clear hE a; intro a hE
  refine p_cons (s_still p12_8_39 hE (wn_some g12_8_38 rfl rfl) rfl (st_move rfl) ?_)
  clear hE a; intro a hE
  refine p_cons (s_still p12_8_40 hE (wn_some g12_8_38 rfl rfl) rfl (st_feql (b := true) rfl rfl (by decide +kernel)) ?_)
  clear hE a; intro a hE
  refine p_cons (s_still p12_8_41 hE wn_none rfl (st_pick rfl rfl) ?_)
  clear hE a; intro a hE
  refine p_cons (s_still p12_8_42 hE wn_none rfl (st_move rfl) ?_)
  clear hE a; intro a hE
  refine p_cons (s_call (xs := [Operand.tmp 9]) (args := [Value.pointer (some ⟨g7, 0, none⟩)]) p12_8_43 hE (wn_some g12_8_42 rfl rfl) rfl rfl Try.func24 cl24 (LCost_true g7 4608308318706860032 4 (by decide) 160 (by decide +kernel) _ B_g7) ?_)
  rintro e w13 ⟨rfl, hk⟩
  replace B_g7 := kp_blk B_g7 hk (fun h => h)
  replace K_0 := K_0.then_ hk (fun _ h => h.elim)
  refine ⟨_, rfl, ?_⟩
  clear hE a; intro a hE
  refine p_cons (s_still p12_8_44 hE (wn_some g12_8_42 rfl rfl) rfl (st_eql (b := true) rfl rfl (by decide)) ?_)
  clear hE a; intro a hE
  refine p_cons (s_still p12_8_45 hE wn_none rfl (st_pick rfl rfl) ?_)
  clear hE a; intro a hE
  refine p_cons (s_still p12_8_46 hE wn_none rfl (st_assign rfl) ?_)
  clear hE a; intro a hE
  refine p_nil ?_
  refine x_norm ?_
  refine wp_ret ?_
  refine ret_one (v := Value.bool true) rfl hE (.tmp rfl .nil) ?_
  exact ⟨rfl, K_0⟩
end Go.Proofs.Ytpnpfapdjdcnbaa.Me
