/- Package metric. -/
import Derived.Test.YtpnpfapdjdcnbaaChecked
import Derived.Test.YtpnpfapdjdcnbaaFlo
import Derived.Test.YtpnpfapdjdcnbaaFl
import Derived.Test.YtpnpfapdjdcnbaaRs
set_option maxRecDepth 100000
set_option linter.unusedVariables false
set_option linter.unusedSimpArgs false
namespace Go.Proofs.Ytpnpfapdjdcnbaa.Me
open Go.RowKit Go.Proofs.YtpnpfapdjdcnbaaW.PrintWords Go.Proofs.Ytpnpfapdjdcnbaa.Ds Go.Proofs.Ytpnpfapdjdcnbaa.Fl
open Go.Proofs.Ytpnpfapdjdcnbaa.Pk (Kp)
open Ieee (double)
theorem ext_round {x : Nat} {s : Bool} {mm : Nat} {p : Int} {r : Nat} (hx : double.read x = .number s mm p) (hr : double.write ((double.read x).integral .even) = r) (w : World) : (callFunc 43 #[.float .f64 x]).run Try.prog w = .ok (.value (.float .f64 r)) w := by
  rw [run_callFunc_extern Try.func43 (by kernel_rfl) (by kernel_rfl) (by kernel_rfl) (e := Extern.MathFloor.toIntegral "math.RoundToEven" .even) (by kernel_rfl)]
  have h1 : FloatKind.f64.decode x = .number s mm p := hx
  have h2 : FloatKind.f64.encode ((Ieee.Datum.number s mm p).integral .even) = r := by rw [← hr, hx]; rfl
  have h3 : (Extern.MathFloor.toIntegral "math.RoundToEven" .even #[.float .f64 x]).run Try.prog w = .ok (.float .f64 r) w := by
    rw [← h2]
    unfold Extern.MathFloor.toIntegral
    show Sem.run _ (Extern.MathFloor.toIntegral.match_1 (fun _ => Sem Value) (FloatKind.f64.decode x) _ _) w = _
    rw [h1]
    rfl
  rw [h3]
  rfl
theorem ext_from (n : Nat) (w : World) : (callFunc 60 #[.int .u64 (n : Int)]).run Try.prog w = .ok (.value (.float .f64 n)) w := by
  rw [run_callFunc_extern Try.func60 (by kernel_rfl) (by kernel_rfl) (by kernel_rfl) (e := Extern.MathFloatBits.float64frombits) (by kernel_rfl)]
  show ((pure (Value.float .f64 (n : Int).toNat) : Sem Value).run _ w).andThen _ = _
  rw [Int.toNat_natCast]
  rfl
theorem R59_0_l : List.range (regOf Try.f59 0).size = [0] := by kernel_rfl
theorem R59_1_l : List.range (regOf Try.f59 1).size = [0, 1, 2, 3] := by kernel_rfl
theorem body59 : Try.f59.body = some (.seq (.region 0 (regOf Try.f59 0) false) (.seq (.region 1 (regOf Try.f59 1) false) (.ret))) := by kernel_rfl
theorem p59_0_0 : pj (regOf Try.f59 0) 0 = some (some 2, .assign (.const (.bool false)), 4, none) := by kernel_rfl
theorem p59_1_0 : pj (regOf Try.f59 1) 0 = some (some 3, .move (.tmp 0), 22, none) := by kernel_rfl
theorem p59_1_1 : pj (regOf Try.f59 1) 1 = some (some 4, .move (.tmp 0), 22, none) := by kernel_rfl
theorem p59_1_2 : pj (regOf Try.f59 1) 2 = some (some 5, .binOp .neq 22 (.tmp 3) (.tmp 4) 22, 4, none) := by kernel_rfl
theorem p59_1_3 : pj (regOf Try.f59 1) 3 = some (some 2, .assign (.tmp 5), 4, none) := by kernel_rfl
set_option maxHeartbeats 4000000 in
theorem isnan_any (x : Nat) (b : Bool) (hb : (double.order x x != some .eq) = b) (w : World) : Calls Try.prog 59 #[.float .f64 x] w fun e w' => e = .returned (.bool b) ∧ Kp w w' (fun _ => False) := by
  have K_0 := Kp.refl w (fun _ => False)
  refine enter (args := [Value.float .f64 x]) (n := 6) Try.func59 body59 rfl rfl rfl ?_
  intro a hE
  refine c_reg R59_0_l ?_
  refine p_cons (s_still p59_0_0 hE wn_none rfl (st_assign rfl) ?_)
  clear hE a; intro a hE
  refine p_nil ?_
  refine x_norm ?_
  refine c_reg R59_1_l ?_
  refine p_cons (s_still p59_1_0 hE wn_none rfl (st_move rfl) ?_)
  clear hE a; intro a hE
  refine p_cons (s_still p59_1_1 hE wn_none rfl (st_move rfl) ?_)
  clear hE a; intro a hE
  refine p_cons (s_still p59_1_2 hE wn_none rfl (st_fneq (b := b) rfl rfl hb) ?_)
  clear hE a; intro a hE
  refine p_cons (s_still p59_1_3 hE wn_none rfl (st_assign rfl) ?_)
  clear hE a; intro a hE
  refine p_nil ?_
  refine x_norm ?_
  refine wp_ret ?_
  refine ret_one (v := Value.bool b) rfl hE (.tmp rfl .nil) ?_
  exact ⟨rfl, K_0⟩
theorem R42_0_l : List.range (regOf Try.f42 0).size = [0] := by kernel_rfl
theorem R42_1_l : List.range (regOf Try.f42 1).size = [0, 1, 2, 3, 4, 5, 6, 7] := by kernel_rfl
theorem body42 : Try.f42.body = some (.seq (.region 0 (regOf Try.f42 0) false) (.seq (.region 1 (regOf Try.f42 1) false) (.ret))) := by kernel_rfl
theorem p42_0_0 : pj (regOf Try.f42 0) 0 = some (some 2, .assign (.const (.bool false)), 4, none) := by kernel_rfl
theorem p42_1_0 : pj (regOf Try.f42 1) 0 = some (some 3, .move (.tmp 0), 22, none) := by kernel_rfl
theorem p42_1_1 : pj (regOf Try.f42 1) 1 = some (some 4, .call { callee := .value (.func 59), args := #[.tmp 3], argTypes := #[22] }, 4, none) := by kernel_rfl
theorem cl59 : callable Try.f59 = true := by kernel_rfl
theorem p42_1_2 : pj (regOf Try.f42 1) 2 = some (some 5, .unOp .not 4 (.tmp 4), 4, none) := by kernel_rfl
theorem p42_1_3 : pj (regOf Try.f42 1) 3 = some (some 6, .move (.tmp 5), 4, none) := by kernel_rfl
theorem p42_1_4 : pj (regOf Try.f42 1) 4 = some (some 7, .move (.tmp 0), 22, some (3, true)) := by kernel_rfl
theorem g42_1_3 : dstOf (regOf Try.f42 1) 3 = some 6 := by kernel_rfl
theorem p42_1_5 : pj (regOf Try.f42 1) 5 = some (some 8, .binOp .geq 22 (.tmp 7) (.const (.float .f64 4607182418800017408)) 22, 4, some (3, true)) := by kernel_rfl
theorem p42_1_6 : pj (regOf Try.f42 1) 6 = some (some 9, .pick (.tmp 6) (.tmp 8) (.const (.bool false)), 4, none) := by kernel_rfl
theorem p42_1_7 : pj (regOf Try.f42 1) 7 = some (some 2, .assign (.tmp 9), 4, none) := by kernel_rfl
set_option maxHeartbeats 4000000 in
theorem right_any (x : Nat) (hx : x < 18446744073709551616) (b : Bool) (hb : decide (right x) = b) (w : World) : Calls Try.prog 42 #[.float .f64 x] w fun e w' => e = .returned (.bool b) ∧ Kp w w' (fun _ => False) := by
  have K_0 := Kp.refl w (fun _ => False)
  refine enter (args := [Value.float .f64 x]) (n := 10) Try.func42 body42 rfl rfl rfl ?_
  intro a hE
  refine c_reg R42_0_l ?_
  refine p_cons (s_still p42_0_0 hE wn_none rfl (st_assign rfl) ?_)
  clear hE a; intro a hE
  refine p_nil ?_
  refine x_norm ?_
  rcases Decidable.em ((double.order x x != some .eq) = true) with hNA | hNA
  ·
    refine c_reg R42_1_l ?_
    refine p_cons (s_still p42_1_0 hE wn_none rfl (st_move rfl) ?_)
    clear hE a; intro a hE
    refine p_cons (s_call (xs := [Operand.tmp 3]) (args := [Value.float .f64 x]) p42_1_1 hE wn_none rfl rfl Try.func59 cl59 (isnan_any x true hNA _) ?_)
    rintro e w1 ⟨rfl, hk⟩
    replace K_0 := K_0.then_ hk (fun _ h => h.elim)
    refine ⟨_, rfl, ?_⟩
    clear hE a; intro a hE
    refine p_cons (s_still p42_1_2 hE wn_none rfl (st_not rfl rfl) ?_)
    clear hE a; intro a hE
    refine p_cons (s_still p42_1_3 hE wn_none rfl (st_move rfl) ?_)
    clear hE a; intro a hE
    refine p_cons (s_skip p42_1_4 hE (wn_some g42_1_3 rfl rfl) rfl ?_)
    clear hE a; intro a hE
    refine p_cons (s_skip p42_1_5 hE (wn_some g42_1_3 rfl rfl) rfl ?_)
    clear hE a; intro a hE
    refine p_cons (s_still p42_1_6 hE wn_none rfl (st_pick rfl rfl) ?_)
    clear hE a; intro a hE
    refine p_cons (s_still p42_1_7 hE wn_none rfl (st_assign rfl) ?_)
    clear hE a; intro a hE
    refine p_nil ?_
    refine x_norm ?_
    refine wp_ret ?_
    refine ret_one (v := Value.bool false) rfl hE (.tmp rfl .nil) ?_
    exact ⟨by rw [← hb, decide_eq_false (nan_not hNA)], K_0⟩
  ·
    refine c_reg R42_1_l ?_
    refine p_cons (s_still p42_1_0 hE wn_none rfl (st_move rfl) ?_)
    clear hE a; intro a hE
    refine p_cons (s_call (xs := [Operand.tmp 3]) (args := [Value.float .f64 x]) p42_1_1 hE wn_none rfl rfl Try.func59 cl59 (isnan_any x false (by simpa using hNA) _) ?_)
    rintro e w2 ⟨rfl, hk⟩
    replace K_0 := K_0.then_ hk (fun _ h => h.elim)
    refine ⟨_, rfl, ?_⟩
    clear hE a; intro a hE
    refine p_cons (s_still p42_1_2 hE wn_none rfl (st_not rfl rfl) ?_)
    clear hE a; intro a hE
    refine p_cons (s_still p42_1_3 hE wn_none rfl (st_move rfl) ?_)
    clear hE a; intro a hE
    refine p_cons (s_still p42_1_4 hE (wn_some g42_1_3 rfl rfl) rfl (st_move rfl) ?_)
    clear hE a; intro a hE
    refine p_cons (s_still p42_1_5 hE (wn_some g42_1_3 rfl rfl) rfl (st_fgeq (b := (decide (right x))) rfl rfl (ge_one hx)) ?_)
    clear hE a; intro a hE
    refine p_cons (s_still p42_1_6 hE wn_none rfl (st_pick rfl rfl) ?_)
    clear hE a; intro a hE
    refine p_cons (s_still p42_1_7 hE wn_none rfl (st_assign rfl) ?_)
    clear hE a; intro a hE
    refine p_nil ?_
    refine x_norm ?_
    refine wp_ret ?_
    refine ret_one (v := Value.bool (decide (right x))) rfl hE (.tmp rfl .nil) ?_
    exact ⟨by rw [← hb], K_0⟩
theorem R10_0_l : List.range (regOf Try.f10 0).size = [0, 1] := by kernel_rfl
theorem R10_1_l : List.range (regOf Try.f10 1).size = [0, 1, 2, 3] := by kernel_rfl
theorem R10_2_l : List.range (regOf Try.f10 2).size = [0, 1] := by kernel_rfl
theorem R10_3_l : List.range (regOf Try.f10 3).size = [0, 1, 2] := by kernel_rfl
theorem R10_4_l : List.range (regOf Try.f10 4).size = [0, 1] := by kernel_rfl
theorem R10_5_l : List.range (regOf Try.f10 5).size = [0, 1, 2, 3, 4, 5, 6] := by kernel_rfl
theorem body10 : Try.f10.body = some (.seq (.region 0 (regOf Try.f10 0) false) (.seq (.block 0 (.seq (.region 1 (regOf Try.f10 1) false) (.cond (Operand.tmp 4) (.seq (.region 2 (regOf Try.f10 2) false) (.ret)) (.seq (.region 3 (regOf Try.f10 3) false) (.cond (Operand.tmp 8) (.seq (.region 4 (regOf Try.f10 4) false) (.ret)) (.skip)))))) (.seq (.region 5 (regOf Try.f10 5) false) (.ret)))) := by kernel_rfl
theorem p10_0_0 : pj (regOf Try.f10 0) 0 = some (some 2, .assign (.const (.int .i64 0)), 3, none) := by kernel_rfl
theorem p10_0_1 : pj (regOf Try.f10 0) 1 = some (some 3, .assign (.const (.int .i64 0)), 23, none) := by kernel_rfl
theorem p10_1_0 : pj (regOf Try.f10 1) 0 = some (some 5, .move (.tmp 0), 22, none) := by kernel_rfl
theorem p10_1_1 : pj (regOf Try.f10 1) 1 = some (some 6, .call { callee := .value (.func 42), args := #[.tmp 5], argTypes := #[22] }, 4, none) := by kernel_rfl
theorem cl42 : callable Try.f42 = true := by kernel_rfl
theorem p10_1_2 : pj (regOf Try.f10 1) 2 = some (some 7, .unOp .not 4 (.tmp 6), 4, none) := by kernel_rfl
theorem p10_1_3 : pj (regOf Try.f10 1) 3 = some (some 4, .assign (.tmp 7), 4, none) := by kernel_rfl
theorem p10_3_0 : pj (regOf Try.f10 3) 0 = some (some 9, .move (.tmp 0), 22, none) := by kernel_rfl
theorem p10_3_1 : pj (regOf Try.f10 3) 1 = some (some 10, .binOp .geq 22 (.tmp 9) (.const (.float .f64 4647714815446351872)) 22, 4, none) := by kernel_rfl
theorem p10_3_2 : pj (regOf Try.f10 3) 2 = some (some 8, .assign (.tmp 10), 4, none) := by kernel_rfl
theorem p10_4_0 : pj (regOf Try.f10 4) 0 = some (some 2, .assign (.const (.int .i64 65535)), 3, none) := by kernel_rfl
theorem p10_4_1 : pj (regOf Try.f10 4) 1 = some (some 3, .assign (.const (.int .i64 0)), 23, none) := by kernel_rfl
theorem p10_5_0 : pj (regOf Try.f10 5) 0 = some (some 11, .move (.tmp 0), 22, none) := by kernel_rfl
theorem p10_5_1 : pj (regOf Try.f10 5) 1 = some (some 12, .binOp .mul 22 (.tmp 11) (.const (.float .f64 4638707616191610880)) 22, 22, none) := by kernel_rfl
theorem p10_5_2 : pj (regOf Try.f10 5) 2 = some (some 13, .call { callee := .value (.func 43), args := #[.tmp 12], argTypes := #[22] }, 22, none) := by kernel_rfl
theorem p10_5_3 : pj (regOf Try.f10 5) 3 = some (some 14, .convert 22 3 (.tmp 13), 3, none) := by kernel_rfl
theorem p10_5_4 : pj (regOf Try.f10 5) 4 = some (some 15, .call { callee := .builtin .min, args := #[.tmp 14, .const (.int .i64 65535)], argTypes := #[3, 3] }, 3, none) := by kernel_rfl
theorem p10_5_5 : pj (regOf Try.f10 5) 5 = some (some 2, .assign (.tmp 15), 3, none) := by kernel_rfl
theorem p10_5_6 : pj (regOf Try.f10 5) 6 = some (some 3, .assign (.const (.int .i64 0)), 23, none) := by kernel_rfl
theorem p10_2_0 : pj (regOf Try.f10 2) 0 = some (some 2, .assign (.const (.int .i64 0)), 3, none) := by kernel_rfl
theorem p10_2_1 : pj (regOf Try.f10 2) 1 = some (some 3, .assign (.const (.int .i64 1)), 23, none) := by kernel_rfl
set_option maxHeartbeats 4000000 in
theorem cost_any (x : Nat) (hx : x < 18446744073709551616) (v e0 : Int) (hv : costV x = v) (he : costE x = e0) (w : World) : Calls Try.prog 10 #[.float .f64 x] w fun e w' => e = .returned (.tuple #[.int .i64 v, .int .i64 e0]) ∧ Kp w w' (fun _ => False) := by
  have K_0 := Kp.refl w (fun _ => False)
  refine enter (args := [Value.float .f64 x]) (n := 16) Try.func10 body10 rfl rfl rfl ?_
  intro a hE
  rcases Decidable.em (right x) with hR_x | hR_x
  ·
    rcases Decidable.em (4647714815446351872 ≤ x) with hG | hG
    ·
      refine c_reg R10_0_l ?_
      refine p_cons (s_still p10_0_0 hE wn_none rfl (st_assign rfl) ?_)
      clear hE a; intro a hE
      refine p_cons (s_still p10_0_1 hE wn_none rfl (st_assign rfl) ?_)
      clear hE a; intro a hE
      refine p_nil ?_
      refine x_norm ?_
      refine wp_seq ?_
      refine wp_block ?_
      refine c_reg R10_1_l ?_
      refine p_cons (s_still p10_1_0 hE wn_none rfl (st_move rfl) ?_)
      clear hE a; intro a hE
      refine p_cons (s_call (xs := [Operand.tmp 5]) (args := [Value.float .f64 x]) p10_1_1 hE wn_none rfl rfl Try.func42 cl42 (right_any x (by omega) true (decide_eq_true hR_x) _) ?_)
      rintro e w1 ⟨rfl, hk⟩
      replace K_0 := K_0.then_ hk (fun _ h => h.elim)
      refine ⟨_, rfl, ?_⟩
      clear hE a; intro a hE
      refine p_cons (s_still p10_1_2 hE wn_none rfl (st_not rfl rfl) ?_)
      clear hE a; intro a hE
      refine p_cons (s_still p10_1_3 hE wn_none rfl (st_assign rfl) ?_)
      clear hE a; intro a hE
      refine p_nil ?_
      refine x_norm ?_
      refine c_cond (t := false) hE rfl ?_
      refine c_reg R10_3_l ?_
      refine p_cons (s_still p10_3_0 hE wn_none rfl (st_move rfl) ?_)
      clear hE a; intro a hE
      refine p_cons (s_still p10_3_1 hE wn_none rfl (st_fgeq (b := true) rfl rfl (by rw [ge_right hx (by decide) (by decide)]; exact decide_eq_true ⟨hR_x, hG⟩)) ?_)
      clear hE a; intro a hE
      refine p_cons (s_still p10_3_2 hE wn_none rfl (st_assign rfl) ?_)
      clear hE a; intro a hE
      refine p_nil ?_
      refine x_norm ?_
      refine c_cond (t := true) hE rfl ?_
      refine c_reg R10_4_l ?_
      refine p_cons (s_still p10_4_0 hE wn_none rfl (st_assign rfl) ?_)
      clear hE a; intro a hE
      refine p_cons (s_still p10_4_1 hE wn_none rfl (st_assign rfl) ?_)
      clear hE a; intro a hE
      refine p_nil ?_
      refine x_norm ?_
      refine wp_ret ?_
      refine x_retB ?_
      refine x_ret ?_
      refine ret_list (rs := [.tmp 2, .tmp 3]) (vs := [Value.int .i64 65535, Value.int .i64 0]) rfl hE (.tmp rfl (.tmp rfl .nil)) rfl ?_
      exact ⟨by rw [← hv, ← he]; unfold costV costE; rw [if_pos hR_x, if_pos hR_x, if_pos hG], K_0⟩
    ·
      refine c_reg R10_0_l ?_
      refine p_cons (s_still p10_0_0 hE wn_none rfl (st_assign rfl) ?_)
      clear hE a; intro a hE
      refine p_cons (s_still p10_0_1 hE wn_none rfl (st_assign rfl) ?_)
      clear hE a; intro a hE
      refine p_nil ?_
      refine x_norm ?_
      refine wp_seq ?_
      refine wp_block ?_
      refine c_reg R10_1_l ?_
      refine p_cons (s_still p10_1_0 hE wn_none rfl (st_move rfl) ?_)
      clear hE a; intro a hE
      refine p_cons (s_call (xs := [Operand.tmp 5]) (args := [Value.float .f64 x]) p10_1_1 hE wn_none rfl rfl Try.func42 cl42 (right_any x (by omega) true (decide_eq_true hR_x) _) ?_)
      rintro e w2 ⟨rfl, hk⟩
      replace K_0 := K_0.then_ hk (fun _ h => h.elim)
      refine ⟨_, rfl, ?_⟩
      clear hE a; intro a hE
      refine p_cons (s_still p10_1_2 hE wn_none rfl (st_not rfl rfl) ?_)
      clear hE a; intro a hE
      refine p_cons (s_still p10_1_3 hE wn_none rfl (st_assign rfl) ?_)
      clear hE a; intro a hE
      refine p_nil ?_
      refine x_norm ?_
      refine c_cond (t := false) hE rfl ?_
      refine c_reg R10_3_l ?_
      refine p_cons (s_still p10_3_0 hE wn_none rfl (st_move rfl) ?_)
      clear hE a; intro a hE
      refine p_cons (s_still p10_3_1 hE wn_none rfl (st_fgeq (b := false) rfl rfl (by rw [ge_right hx (by decide) (by decide)]; exact decide_eq_false (fun h => hG h.2))) ?_)
      clear hE a; intro a hE
      refine p_cons (s_still p10_3_2 hE wn_none rfl (st_assign rfl) ?_)
      clear hE a; intro a hE
      refine p_nil ?_
      refine x_norm ?_
      refine c_cond (t := false) hE rfl ?_
      refine wp_skip ?_
      refine x_normB ?_
      refine x_norm ?_
      refine c_reg R10_5_l ?_
      refine p_cons (s_still p10_5_0 hE wn_none rfl (st_move rfl) ?_)
      clear hE a; intro a hE
      refine p_cons (s_still p10_5_1 hE wn_none rfl (st_farith (z := (x + 31525197391593472)) rfl rfl rfl (mul_128 hR_x.1 ⟨by omega, by omega⟩)) ?_)
      clear hE a; intro a hE
      refine p_cons (s_still p10_5_2 hE wn_none rfl (st_ext (v := Value.float .f64 (double.nearest false (rndF x) 0)) (xs := [Operand.tmp 12]) (args := [Value.float .f64 (x + 31525197391593472)]) rfl (fun w => ext_round (read_norm (by have := hR_x.1; omega) (by omega)) (by rw [int_128 hR_x.1 (by omega)]; rfl) w)) ?_)
      clear hE a; intro a hE
      refine p_cons (s_still p10_5_3 hE wn_none rfl (st_f2i (i := (rndF x : Int)) (by kernel_rfl) Try.underlying3 rfl (f2i_rnd hR_x.1 (by omega))) ?_)
      clear hE a; intro a hE
      refine p_cons (s_still p10_5_4 hE wn_none rfl (st_min (z := (if (65535 : Int) < (rndF x : Int) then 65535 else (rndF x : Int))) rfl rfl rfl) ?_)
      clear hE a; intro a hE
      refine p_cons (s_still p10_5_5 hE wn_none rfl (st_assign rfl) ?_)
      clear hE a; intro a hE
      refine p_cons (s_still p10_5_6 hE wn_none rfl (st_assign rfl) ?_)
      clear hE a; intro a hE
      refine p_nil ?_
      refine x_norm ?_
      refine wp_ret ?_
      refine ret_list (rs := [.tmp 2, .tmp 3]) (vs := [Value.int .i64 (if (65535 : Int) < (rndF x : Int) then 65535 else (rndF x : Int)), Value.int .i64 0]) rfl hE (.tmp rfl (.tmp rfl .nil)) rfl ?_
      exact ⟨by rw [← hv, ← he]; unfold costV costE; rw [if_pos hR_x, if_pos hR_x, if_neg hG], K_0⟩
  ·
    refine c_reg R10_0_l ?_
    refine p_cons (s_still p10_0_0 hE wn_none rfl (st_assign rfl) ?_)
    clear hE a; intro a hE
    refine p_cons (s_still p10_0_1 hE wn_none rfl (st_assign rfl) ?_)
    clear hE a; intro a hE
    refine p_nil ?_
    refine x_norm ?_
    refine wp_seq ?_
    refine wp_block ?_
    refine c_reg R10_1_l ?_
    refine p_cons (s_still p10_1_0 hE wn_none rfl (st_move rfl) ?_)
    clear hE a; intro a hE
    refine p_cons (s_call (xs := [Operand.tmp 5]) (args := [Value.float .f64 x]) p10_1_1 hE wn_none rfl rfl Try.func42 cl42 (right_any x (by omega) false (decide_eq_false hR_x) _) ?_)
    rintro e w3 ⟨rfl, hk⟩
    replace K_0 := K_0.then_ hk (fun _ h => h.elim)
    refine ⟨_, rfl, ?_⟩
    clear hE a; intro a hE
    refine p_cons (s_still p10_1_2 hE wn_none rfl (st_not rfl rfl) ?_)
    clear hE a; intro a hE
    refine p_cons (s_still p10_1_3 hE wn_none rfl (st_assign rfl) ?_)
    clear hE a; intro a hE
    refine p_nil ?_
    refine x_norm ?_
    refine c_cond (t := true) hE rfl ?_
    refine c_reg R10_2_l ?_
    refine p_cons (s_still p10_2_0 hE wn_none rfl (st_assign rfl) ?_)
    clear hE a; intro a hE
    refine p_cons (s_still p10_2_1 hE wn_none rfl (st_assign rfl) ?_)
    clear hE a; intro a hE
    refine p_nil ?_
    refine x_norm ?_
    refine wp_ret ?_
    refine x_retB ?_
    refine x_ret ?_
    refine ret_list (rs := [.tmp 2, .tmp 3]) (vs := [Value.int .i64 0, Value.int .i64 1]) rfl hE (.tmp rfl (.tmp rfl .nil)) rfl ?_
    exact ⟨by rw [← hv, ← he]; unfold costV costE; rw [if_neg hR_x, if_neg hR_x], K_0⟩
theorem R14_0_l : List.range (regOf Try.f14 0).size = [0] := by kernel_rfl
theorem R14_1_l : List.range (regOf Try.f14 1).size = [0, 1, 2] := by kernel_rfl
theorem body14 : Try.f14.body = some (.seq (.region 0 (regOf Try.f14 0) false) (.seq (.region 1 (regOf Try.f14 1) false) (.ret))) := by kernel_rfl
theorem p14_0_0 : pj (regOf Try.f14 0) 0 = some (some 2, .assign (.const (.bool false)), 4, none) := by kernel_rfl
theorem p14_1_0 : pj (regOf Try.f14 1) 0 = some (some 3, .move (.tmp 0), 22, none) := by kernel_rfl
theorem p14_1_1 : pj (regOf Try.f14 1) 1 = some (some 4, .binOp .geq 22 (.tmp 3) (.const (.float .f64 4607182418800017408)) 22, 4, none) := by kernel_rfl
theorem p14_1_2 : pj (regOf Try.f14 1) 2 = some (some 2, .assign (.tmp 4), 4, none) := by kernel_rfl
set_option maxHeartbeats 4000000 in
theorem rright_any (x : Nat) (hx : x < 18446744073709551616) (b : Bool) (hb : decide (right x) = b) (w : World) : Calls Try.prog 14 #[.float .f64 x] w fun e w' => e = .returned (.bool b) ∧ Kp w w' (fun _ => False) := by
  have K_0 := Kp.refl w (fun _ => False)
  refine enter (args := [Value.float .f64 x]) (n := 5) Try.func14 body14 rfl rfl rfl ?_
  intro a hE
  refine c_reg R14_0_l ?_
  refine p_cons (s_still p14_0_0 hE wn_none rfl (st_assign rfl) ?_)
  clear hE a; intro a hE
  refine p_nil ?_
  refine x_norm ?_
  refine c_reg R14_1_l ?_
  refine p_cons (s_still p14_1_0 hE wn_none rfl (st_move rfl) ?_)
  clear hE a; intro a hE
  refine p_cons (s_still p14_1_1 hE wn_none rfl (st_fgeq (b := b) rfl rfl (by rw [ge_one hx]; exact hb)) ?_)
  clear hE a; intro a hE
  refine p_cons (s_still p14_1_2 hE wn_none rfl (st_assign rfl) ?_)
  clear hE a; intro a hE
  refine p_nil ?_
  refine x_norm ?_
  refine wp_ret ?_
  refine ret_one (v := Value.bool b) rfl hE (.tmp rfl .nil) ?_
  exact ⟨rfl, K_0⟩
theorem R15_0_l : List.range (regOf Try.f15 0).size = [0] := by kernel_rfl
theorem R15_1_l : List.range (regOf Try.f15 1).size = [0, 1] := by kernel_rfl
theorem R15_2_l : List.range (regOf Try.f15 2).size = [0] := by kernel_rfl
theorem R15_3_l : List.range (regOf Try.f15 3).size = [0] := by kernel_rfl
theorem R15_4_l : List.range (regOf Try.f15 4).size = [0] := by kernel_rfl
theorem R15_5_l : List.range (regOf Try.f15 5).size = [0, 1] := by kernel_rfl
theorem R15_7_l : List.range (regOf Try.f15 7).size = [0, 1, 2, 3, 4, 5, 6] := by kernel_rfl
theorem R15_8_l : List.range (regOf Try.f15 8).size = [0, 1, 2, 3] := by kernel_rfl
theorem R15_6_l : List.range (regOf Try.f15 6).size = [0, 1, 2] := by kernel_rfl
theorem R15_9_l : List.range (regOf Try.f15 9).size = [0, 1, 2, 3, 4, 5] := by kernel_rfl
theorem R15_10_l : List.range (regOf Try.f15 10).size = [0, 1, 2, 3, 4, 5, 6, 7, 8, 9, 10] := by kernel_rfl
theorem R15_11_l : List.range (regOf Try.f15 11).size = [0, 1, 2] := by kernel_rfl
theorem R15_12_l : List.range (regOf Try.f15 12).size = [0, 1] := by kernel_rfl
theorem R15_13_l : List.range (regOf Try.f15 13).size = [0] := by kernel_rfl
theorem R15_14_l : List.range (regOf Try.f15 14).size = [0, 1] := by kernel_rfl
theorem body15 : Try.f15.body = some (.seq (.region 0 (regOf Try.f15 0) false) (.seq (.seq (.region 1 (regOf Try.f15 1) false) (.cond (Operand.tmp 7) (.seq (.region 2 (regOf Try.f15 2) false) (.ret)) (.skip))) (.seq (.region 3 (regOf Try.f15 3) false) (.seq (.seq (.region 4 (regOf Try.f15 4) false) (.block 0 (.loop (.seq (.seq (.region 5 (regOf Try.f15 5) false) (.cond (Operand.tmp 9) (.skip) (.exit 0))) (.seq (.block 1 (.seq (.region 7 (regOf Try.f15 7) false) (.cond (Operand.tmp 18) (.region 8 (regOf Try.f15 8) false) (.skip)))) (.region 6 (regOf Try.f15 6) false)))))) (.seq (.region 9 (regOf Try.f15 9) false) (.seq (.seq (.region 10 (regOf Try.f15 10) false) (.cond (Operand.tmp 37) (.region 11 (regOf Try.f15 11) false) (.skip))) (.seq (.seq (.region 12 (regOf Try.f15 12) false) (.cond (Operand.tmp 41) (.seq (.region 13 (regOf Try.f15 13) false) (.ret)) (.skip))) (.seq (.region 14 (regOf Try.f15 14) false) (.ret))))))))) := by kernel_rfl
theorem p15_0_0 : pj (regOf Try.f15 0) 0 = some (some 2, .assign (.const (.int .i64 0)), 3, none) := by kernel_rfl
theorem p15_1_0 : pj (regOf Try.f15 1) 0 = some (some 6, .move (.tmp 0), 22, none) := by kernel_rfl
theorem p15_1_1 : pj (regOf Try.f15 1) 1 = some (some 7, .binOp .geq 22 (.tmp 6) (.const (.float .f64 4647714815446351872)) 22, 4, none) := by kernel_rfl
theorem p15_2_0 : pj (regOf Try.f15 2) 0 = some (some 2, .assign (.const (.int .i64 65535)), 3, none) := by kernel_rfl
theorem p15_3_0 : pj (regOf Try.f15 3) 0 = some (some 3, .assign (.const (.int .i64 0)), 3, none) := by kernel_rfl
theorem p15_4_0 : pj (regOf Try.f15 4) 0 = some (some 4, .assign (.const (.int .i64 65536)), 3, none) := by kernel_rfl
theorem p15_5_0 : pj (regOf Try.f15 5) 0 = some (some 8, .move (.tmp 4), 3, none) := by kernel_rfl
theorem p15_5_1 : pj (regOf Try.f15 5) 1 = some (some 9, .binOp .gtr 3 (.tmp 8) (.const (.int .i64 0)) 3, 4, none) := by kernel_rfl
theorem p15_7_0 : pj (regOf Try.f15 7) 0 = some (some 12, .move (.tmp 3), 3, none) := by kernel_rfl
theorem p15_7_1 : pj (regOf Try.f15 7) 1 = some (some 13, .move (.tmp 4), 3, none) := by kernel_rfl
theorem p15_7_2 : pj (regOf Try.f15 7) 2 = some (some 14, .binOp .add 3 (.tmp 12) (.tmp 13) 3, 3, none) := by kernel_rfl
theorem p15_7_3 : pj (regOf Try.f15 7) 3 = some (some 15, .convert 3 22 (.tmp 14), 22, none) := by kernel_rfl
theorem p15_7_4 : pj (regOf Try.f15 7) 4 = some (some 16, .move (.tmp 0), 22, none) := by kernel_rfl
theorem p15_7_5 : pj (regOf Try.f15 7) 5 = some (some 17, .binOp .mul 22 (.tmp 16) (.const (.float .f64 4638707616191610880)) 22, 22, none) := by kernel_rfl
theorem p15_7_6 : pj (regOf Try.f15 7) 6 = some (some 18, .binOp .leq 22 (.tmp 15) (.tmp 17) 22, 4, none) := by kernel_rfl
theorem p15_8_0 : pj (regOf Try.f15 8) 0 = some (some 19, .move (.tmp 3), 3, none) := by kernel_rfl
theorem p15_8_1 : pj (regOf Try.f15 8) 1 = some (some 20, .move (.tmp 4), 3, none) := by kernel_rfl
theorem p15_8_2 : pj (regOf Try.f15 8) 2 = some (some 21, .binOp .add 3 (.tmp 19) (.tmp 20) 3, 3, none) := by kernel_rfl
theorem p15_8_3 : pj (regOf Try.f15 8) 3 = some (some 3, .assign (.tmp 21), 3, none) := by kernel_rfl
theorem p15_6_0 : pj (regOf Try.f15 6) 0 = some (some 10, .move (.tmp 4), 3, none) := by kernel_rfl
theorem p15_6_1 : pj (regOf Try.f15 6) 1 = some (some 11, .binOp .quo 3 (.tmp 10) (.const (.int .i64 2)) 3, 3, none) := by kernel_rfl
theorem p15_6_2 : pj (regOf Try.f15 6) 2 = some (some 4, .assign (.tmp 11), 3, none) := by kernel_rfl
theorem p15_9_0 : pj (regOf Try.f15 9) 0 = some (some 22, .move (.tmp 0), 22, none) := by kernel_rfl
theorem p15_9_1 : pj (regOf Try.f15 9) 1 = some (some 23, .binOp .mul 22 (.tmp 22) (.const (.float .f64 4638707616191610880)) 22, 22, none) := by kernel_rfl
theorem p15_9_2 : pj (regOf Try.f15 9) 2 = some (some 24, .move (.tmp 3), 3, none) := by kernel_rfl
theorem p15_9_3 : pj (regOf Try.f15 9) 3 = some (some 25, .convert 3 22 (.tmp 24), 22, none) := by kernel_rfl
theorem p15_9_4 : pj (regOf Try.f15 9) 4 = some (some 26, .binOp .sub 22 (.tmp 23) (.tmp 25) 22, 22, none) := by kernel_rfl
theorem p15_9_5 : pj (regOf Try.f15 9) 5 = some (some 5, .assign (.tmp 26), 22, none) := by kernel_rfl
theorem p15_10_0 : pj (regOf Try.f15 10) 0 = some (some 27, .move (.tmp 5), 22, none) := by kernel_rfl
theorem p15_10_1 : pj (regOf Try.f15 10) 1 = some (some 28, .binOp .gtr 22 (.tmp 27) (.const (.float .f64 4602678819172646912)) 22, 4, none) := by kernel_rfl
theorem p15_10_2 : pj (regOf Try.f15 10) 2 = some (some 29, .move (.tmp 28), 4, none) := by kernel_rfl
theorem p15_10_3 : pj (regOf Try.f15 10) 3 = some (some 30, .move (.tmp 5), 22, some (2, false)) := by kernel_rfl
theorem g15_10_2 : dstOf (regOf Try.f15 10) 2 = some 29 := by kernel_rfl
theorem p15_10_4 : pj (regOf Try.f15 10) 4 = some (some 31, .binOp .eql 22 (.tmp 30) (.const (.float .f64 4602678819172646912)) 22, 4, some (2, false)) := by kernel_rfl
theorem p15_10_5 : pj (regOf Try.f15 10) 5 = some (some 32, .move (.tmp 31), 4, some (2, false)) := by kernel_rfl
theorem p15_10_6 : pj (regOf Try.f15 10) 6 = some (some 33, .move (.tmp 3), 3, some (5, true)) := by kernel_rfl
theorem g15_10_5 : dstOf (regOf Try.f15 10) 5 = some 32 := by kernel_rfl
theorem p15_10_7 : pj (regOf Try.f15 10) 7 = some (some 34, .binOp .rem 3 (.tmp 33) (.const (.int .i64 2)) 3, 3, some (5, true)) := by kernel_rfl
theorem p15_10_8 : pj (regOf Try.f15 10) 8 = some (some 35, .binOp .eql 3 (.tmp 34) (.const (.int .i64 1)) 3, 4, some (5, true)) := by kernel_rfl
theorem p15_10_9 : pj (regOf Try.f15 10) 9 = some (some 36, .pick (.tmp 32) (.tmp 35) (.const (.bool false)), 4, some (2, false)) := by kernel_rfl
theorem p15_10_10 : pj (regOf Try.f15 10) 10 = some (some 37, .pick (.tmp 29) (.const (.bool true)) (.tmp 36), 4, none) := by kernel_rfl
theorem p15_11_0 : pj (regOf Try.f15 11) 0 = some (some 38, .move (.tmp 3), 3, none) := by kernel_rfl
theorem p15_11_1 : pj (regOf Try.f15 11) 1 = some (some 39, .binOp .add 3 (.tmp 38) (.const (.int .i64 1)) 3, 3, none) := by kernel_rfl
theorem p15_11_2 : pj (regOf Try.f15 11) 2 = some (some 3, .assign (.tmp 39), 3, none) := by kernel_rfl
theorem p15_12_0 : pj (regOf Try.f15 12) 0 = some (some 40, .move (.tmp 3), 3, none) := by kernel_rfl
theorem p15_12_1 : pj (regOf Try.f15 12) 1 = some (some 41, .binOp .gtr 3 (.tmp 40) (.const (.int .i64 65535)) 3, 4, none) := by kernel_rfl
theorem p15_13_0 : pj (regOf Try.f15 13) 0 = some (some 2, .assign (.const (.int .i64 65535)), 3, none) := by kernel_rfl
theorem p15_14_0 : pj (regOf Try.f15 14) 0 = some (some 42, .move (.tmp 3), 3, none) := by kernel_rfl
theorem p15_14_1 : pj (regOf Try.f15 14) 1 = some (some 2, .assign (.tmp 42), 3, none) := by kernel_rfl
set_option maxHeartbeats 4000000 in
theorem rcost_any (x : Nat) (hR_x : right x) (v : Int) (hv : costV x = v) (w : World) : Calls Try.prog 15 #[.float .f64 x] w fun e w' => e = .returned (.int .i64 v) ∧ Kp w w' (fun _ => False) := by
  have K_0 := Kp.refl w (fun _ => False)
  refine enter (args := [Value.float .f64 x]) (n := 43) Try.func15 body15 rfl rfl rfl ?_
  intro a hE
  rcases Decidable.em (4647714815446351872 ≤ x) with hG | hG
  ·
    refine c_reg R15_0_l ?_
    refine p_cons (s_still p15_0_0 hE wn_none rfl (st_assign rfl) ?_)
    clear hE a; intro a hE
    refine p_nil ?_
    refine x_norm ?_
    refine wp_seq ?_
    refine c_reg R15_1_l ?_
    refine p_cons (s_still p15_1_0 hE wn_none rfl (st_move rfl) ?_)
    clear hE a; intro a hE
    refine p_cons (s_still p15_1_1 hE wn_none rfl (st_fgeq (b := true) rfl rfl (by rw [ge_right (by have := hR_x.2; omega) (by decide) (by decide)]; exact decide_eq_true ⟨hR_x, hG⟩)) ?_)
    clear hE a; intro a hE
    refine p_nil ?_
    refine x_norm ?_
    refine c_cond (t := true) hE rfl ?_
    refine c_reg R15_2_l ?_
    refine p_cons (s_still p15_2_0 hE wn_none rfl (st_assign rfl) ?_)
    clear hE a; intro a hE
    refine p_nil ?_
    refine x_norm ?_
    refine wp_ret ?_
    refine x_ret ?_
    refine ret_one (v := Value.int .i64 65535) rfl hE (.tmp rfl .nil) ?_
    exact ⟨by rw [← hv]; unfold costV; rw [if_pos hR_x, if_pos hG], K_0⟩
  ·
    refine c_reg R15_0_l ?_
    refine p_cons (s_still p15_0_0 hE wn_none rfl (st_assign rfl) ?_)
    clear hE a; intro a hE
    refine p_nil ?_
    refine x_norm ?_
    refine wp_seq ?_
    refine c_reg R15_1_l ?_
    refine p_cons (s_still p15_1_0 hE wn_none rfl (st_move rfl) ?_)
    clear hE a; intro a hE
    refine p_cons (s_still p15_1_1 hE wn_none rfl (st_fgeq (b := false) rfl rfl (by rw [ge_right (by have := hR_x.2; omega) (by decide) (by decide)]; exact decide_eq_false (fun h => hG h.2))) ?_)
    clear hE a; intro a hE
    refine p_nil ?_
    refine x_norm ?_
    refine c_cond (t := false) hE rfl ?_
    refine wp_skip ?_
    refine x_norm ?_
    refine c_reg R15_3_l ?_
    refine p_cons (s_still p15_3_0 hE wn_none rfl (st_assign rfl) ?_)
    clear hE a; intro a hE
    refine p_nil ?_
    refine x_norm ?_
    refine wp_seq ?_
    refine c_reg R15_4_l ?_
    refine p_cons (s_still p15_4_0 hE wn_none rfl (st_assign rfl) ?_)
    clear hE a; intro a hE
    refine p_nil ?_
    refine x_norm ?_
    refine wp_block ?_
    have hNb := NF_bounds hR_x.1 (show x < 4647714815446351872 by omega)
    have hst := num_start hNb.2
    refine c_loop (α := Nat) (fun k a W => En 43 a [(0, Value.float .f64 x), (2, Value.int .i64 0), (7, Value.bool false), (3, Value.int .i64 (numF (NF x) k : Int)), (4, Value.int .i64 (bitF k : Int))] ∧ k ≤ 17 ∧ Kp w W (fun _ => False)) (fun k => 17 - k) (0) ?_ ?_
    ·
      exact ⟨En.sub hE ⟨rfl, rfl, rfl, (by rw [hst]; rfl), rfl, trivial⟩, Nat.zero_le _, K_0⟩
    ·
      clear hE a
      rintro k a w1 ⟨hE, hk9, K_0⟩
      have hbf := bit_facts k hk9
      have hnl := num_le (NF x) k
      have hbf1 := hbf.1
      have hbf2 := hbf.2.1
      refine wp_seq ?_
      refine c_reg R15_5_l ?_
      refine p_cons (s_still p15_5_0 hE wn_none rfl (st_move rfl) ?_)
      clear hE a; intro a hE
      rcases Decidable.em (0 < (bitF k : Int)) with hc2 | hc2
      ·
        refine p_cons (s_still (v := Value.bool true) p15_5_1 hE wn_none rfl (st_gtr rfl rfl (decide_eq_true hc2)) ?_)
        clear hE a; intro a hE
        refine p_nil ?_
        refine x_norm ?_
        refine c_cond (t := true) hE rfl ?_
        refine wp_skip ?_
        refine x_norm ?_
        refine wp_seq ?_
        refine wp_block ?_
        rcases Decidable.em (numF (NF x) k + bitF k ≤ NF x) with hLE | hLE
        ·
          refine c_reg R15_7_l ?_
          refine p_cons (s_still p15_7_0 hE wn_none rfl (st_move rfl) ?_)
          clear hE a; intro a hE
          refine p_cons (s_still p15_7_1 hE wn_none rfl (st_move rfl) ?_)
          clear hE a; intro a hE
          refine p_cons (s_still p15_7_2 hE wn_none rfl (st_add (z := ((numF (NF x) k + bitF k : Nat) : Int)) rfl rfl (by rw [← Int.natCast_add]; exact wr_i64 _ (by omega) (by omega))) ?_)
          clear hE a; intro a hE
          refine p_cons (s_still p15_7_3 hE wn_none rfl (st_i2f (z := (fl (numF (NF x) k + bitF k : Nat))) (by kernel_rfl) Try.underlying22 rfl (i2f_nat _)) ?_)
          clear hE a; intro a hE
          refine p_cons (s_still p15_7_4 hE wn_none rfl (st_move rfl) ?_)
          clear hE a; intro a hE
          refine p_cons (s_still p15_7_5 hE wn_none rfl (st_farith (z := (x + 31525197391593472)) rfl rfl rfl (mul_128 hR_x.1 ⟨by omega, by omega⟩)) ?_)
          clear hE a; intro a hE
          refine p_cons (s_still p15_7_6 hE wn_none rfl (st_fleq (b := true) rfl rfl (by rw [leq_fl hR_x.1 (by omega) (by omega) (by omega)]; exact decide_eq_true hLE)) ?_)
          clear hE a; intro a hE
          refine p_nil ?_
          refine x_norm ?_
          refine c_cond (t := true) hE rfl ?_
          refine c_regL R15_8_l ?_
          refine p_cons (s_still p15_8_0 hE wn_none rfl (st_move rfl) ?_)
          clear hE a; intro a hE
          refine p_cons (s_still p15_8_1 hE wn_none rfl (st_move rfl) ?_)
          clear hE a; intro a hE
          refine p_cons (s_still p15_8_2 hE wn_none rfl (st_add (z := ((numF (NF x) k + bitF k : Nat) : Int)) rfl rfl (by rw [← Int.natCast_add]; exact wr_i64 _ (by omega) (by omega))) ?_)
          clear hE a; intro a hE
          refine p_cons (s_still p15_8_3 hE wn_none rfl (st_assign rfl) ?_)
          clear hE a; intro a hE
          refine p_nil ?_
          refine x_normB ?_
          refine x_norm ?_
          refine c_regL R15_6_l ?_
          refine p_cons (s_still p15_6_0 hE wn_none rfl (st_move rfl) ?_)
          clear hE a; intro a hE
          refine p_cons (s_still p15_6_1 hE wn_none rfl (st_quo (z := (bitF (k + 1) : Int)) rfl rfl (by decide) (by rw [Int.tdiv_eq_ediv_of_nonneg (by omega)]; exact (wr_i64 _ (by omega) (by omega)).trans (by have := hbf.2.2; omega))) ?_)
          clear hE a; intro a hE
          refine p_cons (s_still p15_6_2 hE wn_none rfl (st_assign rfl) ?_)
          clear hE a; intro a hE
          refine p_nil ?_
          refine x_norm ?_
          have e3 : numF (NF x) (k + 1) = numF (NF x) k + bitF k := by rw [num_step (by omega), if_pos hLE]
          exact ⟨k + 1, by omega, En.sub hE ⟨rfl, rfl, rfl, (by rw [e3]; rfl), rfl, trivial⟩, by omega, K_0⟩
        ·
          refine c_reg R15_7_l ?_
          refine p_cons (s_still p15_7_0 hE wn_none rfl (st_move rfl) ?_)
          clear hE a; intro a hE
          refine p_cons (s_still p15_7_1 hE wn_none rfl (st_move rfl) ?_)
          clear hE a; intro a hE
          refine p_cons (s_still p15_7_2 hE wn_none rfl (st_add (z := ((numF (NF x) k + bitF k : Nat) : Int)) rfl rfl (by rw [← Int.natCast_add]; exact wr_i64 _ (by omega) (by omega))) ?_)
          clear hE a; intro a hE
          refine p_cons (s_still p15_7_3 hE wn_none rfl (st_i2f (z := (fl (numF (NF x) k + bitF k : Nat))) (by kernel_rfl) Try.underlying22 rfl (i2f_nat _)) ?_)
          clear hE a; intro a hE
          refine p_cons (s_still p15_7_4 hE wn_none rfl (st_move rfl) ?_)
          clear hE a; intro a hE
          refine p_cons (s_still p15_7_5 hE wn_none rfl (st_farith (z := (x + 31525197391593472)) rfl rfl rfl (mul_128 hR_x.1 ⟨by omega, by omega⟩)) ?_)
          clear hE a; intro a hE
          refine p_cons (s_still p15_7_6 hE wn_none rfl (st_fleq (b := false) rfl rfl (by rw [leq_fl hR_x.1 (by omega) (by omega) (by omega)]; exact decide_eq_false hLE)) ?_)
          clear hE a; intro a hE
          refine p_nil ?_
          refine x_norm ?_
          refine c_cond (t := false) hE rfl ?_
          refine wp_skip ?_
          refine x_normB ?_
          refine x_norm ?_
          refine c_regL R15_6_l ?_
          refine p_cons (s_still p15_6_0 hE wn_none rfl (st_move rfl) ?_)
          clear hE a; intro a hE
          refine p_cons (s_still p15_6_1 hE wn_none rfl (st_quo (z := (bitF (k + 1) : Int)) rfl rfl (by decide) (by rw [Int.tdiv_eq_ediv_of_nonneg (by omega)]; exact (wr_i64 _ (by omega) (by omega)).trans (by have := hbf.2.2; omega))) ?_)
          clear hE a; intro a hE
          refine p_cons (s_still p15_6_2 hE wn_none rfl (st_assign rfl) ?_)
          clear hE a; intro a hE
          refine p_nil ?_
          refine x_norm ?_
          have e3 : numF (NF x) (k + 1) = numF (NF x) k := by rw [num_step (by omega), if_neg hLE]
          exact ⟨k + 1, by omega, En.sub hE ⟨rfl, rfl, rfl, (by rw [e3]; rfl), rfl, trivial⟩, by omega, K_0⟩
      ·
        refine p_cons (s_still (v := Value.bool false) p15_5_1 hE wn_none rfl (st_gtr rfl rfl (decide_eq_false hc2)) ?_)
        clear hE a; intro a hE
        refine p_nil ?_
        refine x_norm ?_
        refine c_cond (t := false) hE rfl ?_
        refine wp_exit ?_
        refine x_exit ?_
        refine x_exit ?_
        obtain rfl : k = 17 := by omega
        rw [num_end] at hE
        obtain ⟨r9, hs1, hs2, hs3⟩ := sub_fl hR_x.1 (show x < 4647714815446351872 by omega)
        refine x_in ?_
        refine x_norm ?_
        refine c_reg R15_9_l ?_
        refine p_cons (s_still p15_9_0 hE wn_none rfl (st_move rfl) ?_)
        clear hE a; intro a hE
        refine p_cons (s_still p15_9_1 hE wn_none rfl (st_farith (z := (x + 31525197391593472)) rfl rfl rfl (mul_128 hR_x.1 ⟨by omega, by omega⟩)) ?_)
        clear hE a; intro a hE
        refine p_cons (s_still p15_9_2 hE wn_none rfl (st_move rfl) ?_)
        clear hE a; intro a hE
        refine p_cons (s_still p15_9_3 hE wn_none rfl (st_i2f (z := (fl (NF x))) (by kernel_rfl) Try.underlying22 rfl (i2f_nat _)) ?_)
        clear hE a; intro a hE
        refine p_cons (s_still p15_9_4 hE wn_none rfl (st_farith (z := r9) rfl rfl rfl hs1) ?_)
        clear hE a; intro a hE
        refine p_cons (s_still p15_9_5 hE wn_none rfl (st_assign rfl) ?_)
        clear hE a; intro a hE
        refine p_nil ?_
        refine x_norm ?_
        refine wp_seq ?_
        rcases Decidable.em (2 ^ (1068 - x / 4503599627370496) < 2 * RF x) with hGT | hGT
        ·
          refine c_reg R15_10_l ?_
          refine p_cons (s_still p15_10_0 hE wn_none rfl (st_move rfl) ?_)
          clear hE a; intro a hE
          refine p_cons (s_still p15_10_1 hE wn_none rfl (st_fgtr (b := true) rfl rfl (hs2.trans (decide_eq_true hGT))) ?_)
          clear hE a; intro a hE
          refine p_cons (s_still p15_10_2 hE wn_none rfl (st_move rfl) ?_)
          clear hE a; intro a hE
          refine p_cons (s_skip p15_10_3 hE (wn_some g15_10_2 rfl rfl) rfl ?_)
          clear hE a; intro a hE
          refine p_cons (s_skip p15_10_4 hE (wn_some g15_10_2 rfl rfl) rfl ?_)
          clear hE a; intro a hE
          refine p_cons (s_skip p15_10_5 hE (wn_some g15_10_2 rfl rfl) rfl ?_)
          clear hE a; intro a hE
          refine p_cons (s_skip p15_10_6 hE (wn_undef g15_10_5 rfl) rfl ?_)
          clear hE a; intro a hE
          refine p_cons (s_skip p15_10_7 hE (wn_undef g15_10_5 rfl) rfl ?_)
          clear hE a; intro a hE
          refine p_cons (s_skip p15_10_8 hE (wn_undef g15_10_5 rfl) rfl ?_)
          clear hE a; intro a hE
          refine p_cons (s_skip p15_10_9 hE (wn_some g15_10_2 rfl rfl) rfl ?_)
          clear hE a; intro a hE
          refine p_cons (s_still p15_10_10 hE wn_none rfl (st_pick rfl rfl) ?_)
          clear hE a; intro a hE
          refine p_nil ?_
          refine x_norm ?_
          refine c_cond (t := true) hE rfl ?_
          refine c_regL R15_11_l ?_
          refine p_cons (s_still p15_11_0 hE wn_none rfl (st_move rfl) ?_)
          clear hE a; intro a hE
          refine p_cons (s_still p15_11_1 hE wn_none rfl (st_add (z := (NF x : Int) + 1) rfl rfl (wr_i64 _ (by omega) (by omega))) ?_)
          clear hE a; intro a hE
          refine p_cons (s_still p15_11_2 hE wn_none rfl (st_assign rfl) ?_)
          clear hE a; intro a hE
          refine p_nil ?_
          refine x_norm ?_
          refine wp_seq ?_
          refine c_reg R15_12_l ?_
          refine p_cons (s_still p15_12_0 hE wn_none rfl (st_move rfl) ?_)
          clear hE a; intro a hE
          rcases Decidable.em (65535 < (NF x : Int) + 1) with hc3 | hc3
          ·
            refine p_cons (s_still (v := Value.bool true) p15_12_1 hE wn_none rfl (st_gtr rfl rfl (decide_eq_true hc3)) ?_)
            clear hE a; intro a hE
            refine p_nil ?_
            refine x_norm ?_
            refine c_cond (t := true) hE rfl ?_
            refine c_reg R15_13_l ?_
            refine p_cons (s_still p15_13_0 hE wn_none rfl (st_assign rfl) ?_)
            clear hE a; intro a hE
            refine p_nil ?_
            refine x_norm ?_
            refine wp_ret ?_
            refine x_ret ?_
            refine ret_one (v := Value.int .i64 65535) rfl hE (.tmp rfl .nil) ?_
            have hr := rnd_NF hR_x.1 (show x < 4647714815446351872 by omega)
            rw [if_pos (.inl hGT)] at hr
            have e9 : costV x = 65535 := by
              unfold costV
              rw [if_pos hR_x, if_neg hG]
              split <;> omega
            exact ⟨by rw [← hv, e9], K_0⟩
          ·
            refine p_cons (s_still (v := Value.bool false) p15_12_1 hE wn_none rfl (st_gtr rfl rfl (decide_eq_false hc3)) ?_)
            clear hE a; intro a hE
            refine p_nil ?_
            refine x_norm ?_
            refine c_cond (t := false) hE rfl ?_
            refine wp_skip ?_
            refine x_norm ?_
            refine c_reg R15_14_l ?_
            refine p_cons (s_still p15_14_0 hE wn_none rfl (st_move rfl) ?_)
            clear hE a; intro a hE
            refine p_cons (s_still p15_14_1 hE wn_none rfl (st_assign rfl) ?_)
            clear hE a; intro a hE
            refine p_nil ?_
            refine x_norm ?_
            refine wp_ret ?_
            refine ret_one (v := Value.int .i64 ((NF x : Int) + 1)) rfl hE (.tmp rfl .nil) ?_
            have hr := rnd_NF hR_x.1 (show x < 4647714815446351872 by omega)
            rw [if_pos (.inl hGT)] at hr
            have e9 : costV x = (NF x : Int) + 1 := by
              unfold costV
              rw [if_pos hR_x, if_neg hG]
              split <;> omega
            exact ⟨by rw [← hv, e9], K_0⟩
        ·
          rcases Decidable.em (2 ^ (1068 - x / 4503599627370496) = 2 * RF x) with hEQ | hEQ
          ·
            rcases Decidable.em (NF x % 2 = 1) with hOD | hOD
            ·
              refine c_reg R15_10_l ?_
              refine p_cons (s_still p15_10_0 hE wn_none rfl (st_move rfl) ?_)
              clear hE a; intro a hE
              refine p_cons (s_still p15_10_1 hE wn_none rfl (st_fgtr (b := false) rfl rfl (hs2.trans (decide_eq_false hGT))) ?_)
              clear hE a; intro a hE
              refine p_cons (s_still p15_10_2 hE wn_none rfl (st_move rfl) ?_)
              clear hE a; intro a hE
              refine p_cons (s_still p15_10_3 hE (wn_some g15_10_2 rfl rfl) rfl (st_move rfl) ?_)
              clear hE a; intro a hE
              refine p_cons (s_still p15_10_4 hE (wn_some g15_10_2 rfl rfl) rfl (st_feql (b := true) rfl rfl (hs3.trans (decide_eq_true hEQ))) ?_)
              clear hE a; intro a hE
              refine p_cons (s_still p15_10_5 hE (wn_some g15_10_2 rfl rfl) rfl (st_move rfl) ?_)
              clear hE a; intro a hE
              refine p_cons (s_still p15_10_6 hE (wn_some g15_10_5 rfl rfl) rfl (st_move rfl) ?_)
              clear hE a; intro a hE
              refine p_cons (s_still p15_10_7 hE (wn_some g15_10_5 rfl rfl) rfl (st_rem (z := (NF x : Int) % 2) rfl rfl (by decide) (Int.tmod_eq_emod_of_nonneg (by omega))) ?_)
              clear hE a; intro a hE
              refine p_cons (s_still p15_10_8 hE (wn_some g15_10_5 rfl rfl) rfl (st_eql (b := true) rfl rfl (decide_eq_true (by omega))) ?_)
              clear hE a; intro a hE
              refine p_cons (s_still p15_10_9 hE (wn_some g15_10_2 rfl rfl) rfl (st_pick rfl rfl) ?_)
              clear hE a; intro a hE
              refine p_cons (s_still p15_10_10 hE wn_none rfl (st_pick rfl rfl) ?_)
              clear hE a; intro a hE
              refine p_nil ?_
              refine x_norm ?_
              refine c_cond (t := true) hE rfl ?_
              refine c_regL R15_11_l ?_
              refine p_cons (s_still p15_11_0 hE wn_none rfl (st_move rfl) ?_)
              clear hE a; intro a hE
              refine p_cons (s_still p15_11_1 hE wn_none rfl (st_add (z := (NF x : Int) + 1) rfl rfl (wr_i64 _ (by omega) (by omega))) ?_)
              clear hE a; intro a hE
              refine p_cons (s_still p15_11_2 hE wn_none rfl (st_assign rfl) ?_)
              clear hE a; intro a hE
              refine p_nil ?_
              refine x_norm ?_
              refine wp_seq ?_
              refine c_reg R15_12_l ?_
              refine p_cons (s_still p15_12_0 hE wn_none rfl (st_move rfl) ?_)
              clear hE a; intro a hE
              rcases Decidable.em (65535 < (NF x : Int) + 1) with hc4 | hc4
              ·
                refine p_cons (s_still (v := Value.bool true) p15_12_1 hE wn_none rfl (st_gtr rfl rfl (decide_eq_true hc4)) ?_)
                clear hE a; intro a hE
                refine p_nil ?_
                refine x_norm ?_
                refine c_cond (t := true) hE rfl ?_
                refine c_reg R15_13_l ?_
                refine p_cons (s_still p15_13_0 hE wn_none rfl (st_assign rfl) ?_)
                clear hE a; intro a hE
                refine p_nil ?_
                refine x_norm ?_
                refine wp_ret ?_
                refine x_ret ?_
                refine ret_one (v := Value.int .i64 65535) rfl hE (.tmp rfl .nil) ?_
                have hr := rnd_NF hR_x.1 (show x < 4647714815446351872 by omega)
                rw [if_pos (.inr ⟨hEQ, hOD⟩)] at hr
                have e9 : costV x = 65535 := by
                  unfold costV
                  rw [if_pos hR_x, if_neg hG]
                  split <;> omega
                exact ⟨by rw [← hv, e9], K_0⟩
              ·
                refine p_cons (s_still (v := Value.bool false) p15_12_1 hE wn_none rfl (st_gtr rfl rfl (decide_eq_false hc4)) ?_)
                clear hE a; intro a hE
                refine p_nil ?_
                refine x_norm ?_
                refine c_cond (t := false) hE rfl ?_
                refine wp_skip ?_
                refine x_norm ?_
                refine c_reg R15_14_l ?_
                refine p_cons (s_still p15_14_0 hE wn_none rfl (st_move rfl) ?_)
                clear hE a; intro a hE
                refine p_cons (s_still p15_14_1 hE wn_none rfl (st_assign rfl) ?_)
                clear hE a; intro a hE
                refine p_nil ?_
                refine x_norm ?_
                refine wp_ret ?_
                refine ret_one (v := Value.int .i64 ((NF x : Int) + 1)) rfl hE (.tmp rfl .nil) ?_
                have hr := rnd_NF hR_x.1 (show x < 4647714815446351872 by omega)
                rw [if_pos (.inr ⟨hEQ, hOD⟩)] at hr
                have e9 : costV x = (NF x : Int) + 1 := by
                  unfold costV
                  rw [if_pos hR_x, if_neg hG]
                  split <;> omega
                exact ⟨by rw [← hv, e9], K_0⟩
            ·
              refine c_reg R15_10_l ?_
              refine p_cons (s_still p15_10_0 hE wn_none rfl (st_move rfl) ?_)
              clear hE a; intro a hE
              refine p_cons (s_still p15_10_1 hE wn_none rfl (st_fgtr (b := false) rfl rfl (hs2.trans (decide_eq_false hGT))) ?_)
              clear hE a; intro a hE
              refine p_cons (s_still p15_10_2 hE wn_none rfl (st_move rfl) ?_)
              clear hE a; intro a hE
              refine p_cons (s_still p15_10_3 hE (wn_some g15_10_2 rfl rfl) rfl (st_move rfl) ?_)
              clear hE a; intro a hE
              refine p_cons (s_still p15_10_4 hE (wn_some g15_10_2 rfl rfl) rfl (st_feql (b := true) rfl rfl (hs3.trans (decide_eq_true hEQ))) ?_)
              clear hE a; intro a hE
              refine p_cons (s_still p15_10_5 hE (wn_some g15_10_2 rfl rfl) rfl (st_move rfl) ?_)
              clear hE a; intro a hE
              refine p_cons (s_still p15_10_6 hE (wn_some g15_10_5 rfl rfl) rfl (st_move rfl) ?_)
              clear hE a; intro a hE
              refine p_cons (s_still p15_10_7 hE (wn_some g15_10_5 rfl rfl) rfl (st_rem (z := (NF x : Int) % 2) rfl rfl (by decide) (Int.tmod_eq_emod_of_nonneg (by omega))) ?_)
              clear hE a; intro a hE
              refine p_cons (s_still p15_10_8 hE (wn_some g15_10_5 rfl rfl) rfl (st_eql (b := false) rfl rfl (decide_eq_false (by omega))) ?_)
              clear hE a; intro a hE
              refine p_cons (s_still p15_10_9 hE (wn_some g15_10_2 rfl rfl) rfl (st_pick rfl rfl) ?_)
              clear hE a; intro a hE
              refine p_cons (s_still p15_10_10 hE wn_none rfl (st_pick rfl rfl) ?_)
              clear hE a; intro a hE
              refine p_nil ?_
              refine x_norm ?_
              refine c_cond (t := false) hE rfl ?_
              refine wp_skip ?_
              refine x_norm ?_
              refine wp_seq ?_
              refine c_reg R15_12_l ?_
              refine p_cons (s_still p15_12_0 hE wn_none rfl (st_move rfl) ?_)
              clear hE a; intro a hE
              rcases Decidable.em (65535 < (NF x : Int)) with hc5 | hc5
              ·
                refine p_cons (s_still (v := Value.bool true) p15_12_1 hE wn_none rfl (st_gtr rfl rfl (decide_eq_true hc5)) ?_)
                clear hE a; intro a hE
                refine p_nil ?_
                refine x_norm ?_
                refine c_cond (t := true) hE rfl ?_
                refine c_reg R15_13_l ?_
                refine p_cons (s_still p15_13_0 hE wn_none rfl (st_assign rfl) ?_)
                clear hE a; intro a hE
                refine p_nil ?_
                refine x_norm ?_
                refine wp_ret ?_
                refine x_ret ?_
                refine ret_one (v := Value.int .i64 65535) rfl hE (.tmp rfl .nil) ?_
                have hr := rnd_NF hR_x.1 (show x < 4647714815446351872 by omega)
                rw [if_neg (fun h => h.elim hGT (fun h2 => hOD h2.2))] at hr
                have e9 : costV x = 65535 := by
                  unfold costV
                  rw [if_pos hR_x, if_neg hG]
                  split <;> omega
                exact ⟨by rw [← hv, e9], K_0⟩
              ·
                refine p_cons (s_still (v := Value.bool false) p15_12_1 hE wn_none rfl (st_gtr rfl rfl (decide_eq_false hc5)) ?_)
                clear hE a; intro a hE
                refine p_nil ?_
                refine x_norm ?_
                refine c_cond (t := false) hE rfl ?_
                refine wp_skip ?_
                refine x_norm ?_
                refine c_reg R15_14_l ?_
                refine p_cons (s_still p15_14_0 hE wn_none rfl (st_move rfl) ?_)
                clear hE a; intro a hE
                refine p_cons (s_still p15_14_1 hE wn_none rfl (st_assign rfl) ?_)
                clear hE a; intro a hE
                refine p_nil ?_
                refine x_norm ?_
                refine wp_ret ?_
                refine ret_one (v := Value.int .i64 (NF x : Int)) rfl hE (.tmp rfl .nil) ?_
                have hr := rnd_NF hR_x.1 (show x < 4647714815446351872 by omega)
                rw [if_neg (fun h => h.elim hGT (fun h2 => hOD h2.2))] at hr
                have e9 : costV x = (NF x : Int) := by
                  unfold costV
                  rw [if_pos hR_x, if_neg hG]
                  split <;> omega
                exact ⟨by rw [← hv, e9], K_0⟩
          ·
            refine c_reg R15_10_l ?_
            refine p_cons (s_still p15_10_0 hE wn_none rfl (st_move rfl) ?_)
            clear hE a; intro a hE
            refine p_cons (s_still p15_10_1 hE wn_none rfl (st_fgtr (b := false) rfl rfl (hs2.trans (decide_eq_false hGT))) ?_)
            clear hE a; intro a hE
            refine p_cons (s_still p15_10_2 hE wn_none rfl (st_move rfl) ?_)
            clear hE a; intro a hE
            refine p_cons (s_still p15_10_3 hE (wn_some g15_10_2 rfl rfl) rfl (st_move rfl) ?_)
            clear hE a; intro a hE
            refine p_cons (s_still p15_10_4 hE (wn_some g15_10_2 rfl rfl) rfl (st_feql (b := false) rfl rfl (hs3.trans (decide_eq_false hEQ))) ?_)
            clear hE a; intro a hE
            refine p_cons (s_still p15_10_5 hE (wn_some g15_10_2 rfl rfl) rfl (st_move rfl) ?_)
            clear hE a; intro a hE
            refine p_cons (s_skip p15_10_6 hE (wn_some g15_10_5 rfl rfl) rfl ?_)
            clear hE a; intro a hE
            refine p_cons (s_skip p15_10_7 hE (wn_some g15_10_5 rfl rfl) rfl ?_)
            clear hE a; intro a hE
            refine p_cons (s_skip p15_10_8 hE (wn_some g15_10_5 rfl rfl) rfl ?_)
            clear hE a; intro a hE
            refine p_cons (s_still p15_10_9 hE (wn_some g15_10_2 rfl rfl) rfl (st_pick rfl rfl) ?_)
            clear hE a; intro a hE
            refine p_cons (s_still p15_10_10 hE wn_none rfl (st_pick rfl rfl) ?_)
            clear hE a; intro a hE
            refine p_nil ?_
            refine x_norm ?_
            refine c_cond (t := false) hE rfl ?_
            refine wp_skip ?_
            refine x_norm ?_
            refine wp_seq ?_
            refine c_reg R15_12_l ?_
            refine p_cons (s_still p15_12_0 hE wn_none rfl (st_move rfl) ?_)
            clear hE a; intro a hE
            rcases Decidable.em (65535 < (NF x : Int)) with hc6 | hc6
            ·
              refine p_cons (s_still (v := Value.bool true) p15_12_1 hE wn_none rfl (st_gtr rfl rfl (decide_eq_true hc6)) ?_)
              clear hE a; intro a hE
              refine p_nil ?_
              refine x_norm ?_
              refine c_cond (t := true) hE rfl ?_
              refine c_reg R15_13_l ?_
              refine p_cons (s_still p15_13_0 hE wn_none rfl (st_assign rfl) ?_)
              clear hE a; intro a hE
              refine p_nil ?_
              refine x_norm ?_
              refine wp_ret ?_
              refine x_ret ?_
              refine ret_one (v := Value.int .i64 65535) rfl hE (.tmp rfl .nil) ?_
              have hr := rnd_NF hR_x.1 (show x < 4647714815446351872 by omega)
              rw [if_neg (fun h => h.elim hGT (fun h2 => hEQ h2.1))] at hr
              have e9 : costV x = 65535 := by
                unfold costV
                rw [if_pos hR_x, if_neg hG]
                split <;> omega
              exact ⟨by rw [← hv, e9], K_0⟩
            ·
              refine p_cons (s_still (v := Value.bool false) p15_12_1 hE wn_none rfl (st_gtr rfl rfl (decide_eq_false hc6)) ?_)
              clear hE a; intro a hE
              refine p_nil ?_
              refine x_norm ?_
              refine c_cond (t := false) hE rfl ?_
              refine wp_skip ?_
              refine x_norm ?_
              refine c_reg R15_14_l ?_
              refine p_cons (s_still p15_14_0 hE wn_none rfl (st_move rfl) ?_)
              clear hE a; intro a hE
              refine p_cons (s_still p15_14_1 hE wn_none rfl (st_assign rfl) ?_)
              clear hE a; intro a hE
              refine p_nil ?_
              refine x_norm ?_
              refine wp_ret ?_
              refine ret_one (v := Value.int .i64 (NF x : Int)) rfl hE (.tmp rfl .nil) ?_
              have hr := rnd_NF hR_x.1 (show x < 4647714815446351872 by omega)
              rw [if_neg (fun h => h.elim hGT (fun h2 => hEQ h2.1))] at hr
              have e9 : costV x = (NF x : Int) := by
                unfold costV
                rw [if_pos hR_x, if_neg hG]
                split <;> omega
              exact ⟨by rw [← hv, e9], K_0⟩
end Go.Proofs.Ytpnpfapdjdcnbaa.Me
