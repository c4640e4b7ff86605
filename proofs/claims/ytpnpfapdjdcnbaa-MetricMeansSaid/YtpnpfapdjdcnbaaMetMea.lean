/- The law MetricMeans, walked. -/
import Derived.Test.YtpnpfapdjdcnbaaMet
import Derived.Test.YtpnpfapdjdcnbaaFlm
import Derived.Test.YtpnpfapdjdcnbaaKdOpen
set_option maxRecDepth 100000
set_option linter.unusedVariables false
set_option linter.unusedSimpArgs false
namespace Go.Proofs.Ytpnpfapdjdcnbaa.MMea
open Go.RowKit Go.Proofs.YtpnpfapdjdcnbaaW.PrintWords Go.Proofs.Ytpnpfapdjdcnbaa.Ds Go.Proofs.Ytpnpfapdjdcnbaa.Fl Go.Proofs.Ytpnpfapdjdcnbaa.Me Go.Proofs.Ytpnpfapdjdcnbaa.KdOpen
open Go.Proofs.Ytpnpfapdjdcnbaa.Pk (Kp)
open Ieee (double)
theorem wf_bd {n : Int} (h : (Lit.int .i64 n).wf = true) : -9223372036854775808 ≤ n ∧ n ≤ 9223372036854775807 := by
  simpa [Lit.wf, IntKind.min, IntKind.max, IntKind.signed, IntKind.bits] using h
theorem num_no {s : Bool} {m : Nat} {p : Int} (hm : m ≠ 0) (b : Bool) : ((Ieee.Datum.number s m p == Ieee.Datum.infinity b) = false) ∧ (Ieee.Datum.number s m p).isNaN = false ∧ (Ieee.Datum.number s m p).isZero = false := by
  refine ⟨beq_eq_false_iff_ne.2 (fun h => by cases h), rfl, ?_⟩
  cases m with
  | zero => exact absurd rfl hm
  | succ m => rfl
theorem ext_min {x y : Nat} (hx : 4607182418800017408 ≤ x ∧ x < 9218868437227405312) (hy : 4607182418800017408 ≤ y ∧ y < 9218868437227405312) (w : World) : (callFunc 49 #[.float .f64 x, .float .f64 y]).run Try.prog w = .ok (.value (.float .f64 (if x < y then x else y))) w := by
  rw [run_callFunc_extern Try.func49 (by kernel_rfl) (by kernel_rfl) (by kernel_rfl) (e := Extern.MathDim.pick "math.archMin" true .lt) (by kernel_rfl)]
  have h1 : FloatKind.f64.decode x = _ := read_norm (x := x) (by omega) (by omega)
  have h2 : FloatKind.f64.decode y = _ := read_norm (x := y) (by omega) (by omega)
  have ho : (FloatKind.f64.decode x).order (FloatKind.f64.decode y) = some (cmpN x y) := order_words (by omega) (by omega) (by omega) (by omega)
  rw [h1, h2] at ho
  have a := num_no (s := false) (m := 4503599627370496 + x % 4503599627370496) (p := -1075 + ((x / 4503599627370496 : Nat) : Int)) (by omega) true
  have b := num_no (s := false) (m := 4503599627370496 + y % 4503599627370496) (p := -1075 + ((y / 4503599627370496 : Nat) : Int)) (by omega) true
  have h3 : (Extern.MathDim.pick "math.archMin" true .lt #[.float .f64 x, .float .f64 y]).run Try.prog w = .ok (.float .f64 (if x < y then x else y)) w := by
    unfold Extern.MathDim.pick
    show Sem.run _ (pure (Value.float .f64 _)) w = _
    rw [h1, h2, a.1, b.1, a.2.1, b.2.1, a.2.2, b.2.2, ho]
    have hc : (some (cmpN x y) == some Ordering.lt) = decide (x < y) := by
      unfold cmpN
      rcases Nat.lt_trichotomy x y with h | h | h
      · rw [if_pos h, decide_eq_true (by omega)]; rfl
      · subst h; rw [if_neg (by omega), if_pos rfl, decide_eq_false (by omega)]; rfl
      · rw [if_neg (by omega), if_neg (by omega), decide_eq_false (by omega)]; rfl
    rw [hc]
    by_cases h : x < y
    · rw [decide_eq_true h, if_pos h]; rfl
    · rw [decide_eq_false h, if_neg h]; rfl
  rw [h3]
  rfl
theorem R26_0_l : List.range (regOf Try.f26 0).size = [0] := by kernel_rfl
theorem R26_1_l : List.range (regOf Try.f26 1).size = [0, 1, 2, 3] := by kernel_rfl
theorem R26_2_l : List.range (regOf Try.f26 2).size = [0, 1, 2, 3] := by kernel_rfl
theorem body26 : Try.f26.body = some (.seq (.region 0 (regOf Try.f26 0) false) (.seq (.cond (Operand.const (Value.bool true)) (.seq (.region 1 (regOf Try.f26 1) false) (.ret)) (.skip)) (.seq (.region 2 (regOf Try.f26 2) false) (.ret)))) := by kernel_rfl
theorem p26_0_0 : pj (regOf Try.f26 0) 0 = some (some 4, Op.assign (Operand.const (Value.float FloatKind.f64 0)), 22, none) := by kernel_rfl
theorem p26_1_0 : pj (regOf Try.f26 1) 0 = some (some 5, Op.move (Operand.tmp 0), 22, none) := by kernel_rfl
theorem p26_1_1 : pj (regOf Try.f26 1) 1 = some (some 6, Op.move (Operand.tmp 1), 22, none) := by kernel_rfl
theorem p26_1_2 : pj (regOf Try.f26 1) 2 = some (some 7, Op.call { callee := Callee.value (Operand.func 49), args := #[Operand.tmp 5, Operand.tmp 6], argTypes := #[22, 22] }, 22, none) := by kernel_rfl
theorem p26_1_3 : pj (regOf Try.f26 1) 3 = some (some 4, Op.assign (Operand.tmp 7), 22, none) := by kernel_rfl
set_option maxHeartbeats 4000000 in
theorem min_any (x y : Nat) (hx : 4607182418800017408 ≤ x ∧ x < 9218868437227405312) (hy : 4607182418800017408 ≤ y ∧ y < 9218868437227405312) (w : World) : Calls Try.prog 26 #[.float .f64 x, .float .f64 y] w fun e w' => e = .returned (.float .f64 (if x < y then x else y)) ∧ Kp w w' (fun _ => False) := by
  have K_0 := Kp.refl w (fun _ => False)
  refine enter (args := [Value.float .f64 x, Value.float .f64 y]) (n := 11) Try.func26 body26 rfl rfl rfl ?_
  intro a hE
  refine c_reg R26_0_l ?_
  refine p_cons (s_still p26_0_0 hE wn_none rfl (st_assign rfl) ?_)
  clear hE a; intro a hE
  refine p_nil ?_
  refine x_norm ?_
  refine wp_seq ?_
  refine c_cond (t := true) hE rfl ?_
  refine c_reg R26_1_l ?_
  refine p_cons (s_still p26_1_0 hE wn_none rfl (st_move rfl) ?_)
  clear hE a; intro a hE
  refine p_cons (s_still p26_1_1 hE wn_none rfl (st_move rfl) ?_)
  clear hE a; intro a hE
  refine p_cons (s_still p26_1_2 hE wn_none rfl (st_ext (v := Value.float .f64 (if x < y then x else y)) (xs := [Operand.tmp 5, Operand.tmp 6]) (args := [Value.float .f64 x, Value.float .f64 y]) rfl (ext_min hx hy)) ?_)
  clear hE a; intro a hE
  refine p_cons (s_still p26_1_3 hE wn_none rfl (st_assign rfl) ?_)
  clear hE a; intro a hE
  refine p_nil ?_
  refine x_norm ?_
  refine wp_ret ?_
  refine x_ret ?_
  refine ret_one (v := Value.float .f64 (if x < y then x else y)) rfl hE (.tmp rfl .nil) ?_
  exact ⟨rfl, K_0⟩
theorem ext_max {x y : Nat} (hx : 4607182418800017408 ≤ x ∧ x < 9218868437227405312) (hy : 4607182418800017408 ≤ y ∧ y < 9218868437227405312) (w : World) : (callFunc 51 #[.float .f64 x, .float .f64 y]).run Try.prog w = .ok (.value (.float .f64 (if y < x then x else y))) w := by
  rw [run_callFunc_extern Try.func51 (by kernel_rfl) (by kernel_rfl) (by kernel_rfl) (e := Extern.MathDim.pick "math.archMax" false .gt) (by kernel_rfl)]
  have h1 : FloatKind.f64.decode x = _ := read_norm (x := x) (by omega) (by omega)
  have h2 : FloatKind.f64.decode y = _ := read_norm (x := y) (by omega) (by omega)
  have ho : (FloatKind.f64.decode x).order (FloatKind.f64.decode y) = some (cmpN x y) := order_words (by omega) (by omega) (by omega) (by omega)
  rw [h1, h2] at ho
  have a := num_no (s := false) (m := 4503599627370496 + x % 4503599627370496) (p := -1075 + ((x / 4503599627370496 : Nat) : Int)) (by omega) false
  have b := num_no (s := false) (m := 4503599627370496 + y % 4503599627370496) (p := -1075 + ((y / 4503599627370496 : Nat) : Int)) (by omega) false
  have h3 : (Extern.MathDim.pick "math.archMax" false .gt #[.float .f64 x, .float .f64 y]).run Try.prog w = .ok (.float .f64 (if y < x then x else y)) w := by
    unfold Extern.MathDim.pick
    show Sem.run _ (pure (Value.float .f64 _)) w = _
    rw [h1, h2, a.1, b.1, a.2.1, b.2.1, a.2.2, b.2.2, ho]
    have hc : (some (cmpN x y) == some Ordering.gt) = decide (y < x) := by
      unfold cmpN
      rcases Nat.lt_trichotomy x y with h | h | h
      · rw [if_pos h, decide_eq_false (by omega)]; rfl
      · subst h; rw [if_neg (by omega), if_pos rfl, decide_eq_false (by omega)]; rfl
      · rw [if_neg (by omega), if_neg (by omega), decide_eq_true (by omega)]; rfl
    rw [hc]
    by_cases h : y < x
    · rw [decide_eq_true h, if_pos h]; rfl
    · rw [decide_eq_false h, if_neg h]; rfl
  rw [h3]
  rfl
theorem R27_0_l : List.range (regOf Try.f27 0).size = [0] := by kernel_rfl
theorem R27_1_l : List.range (regOf Try.f27 1).size = [0, 1, 2, 3] := by kernel_rfl
theorem R27_2_l : List.range (regOf Try.f27 2).size = [0, 1, 2, 3] := by kernel_rfl
theorem body27 : Try.f27.body = some (.seq (.region 0 (regOf Try.f27 0) false) (.seq (.cond (Operand.const (Value.bool true)) (.seq (.region 1 (regOf Try.f27 1) false) (.ret)) (.skip)) (.seq (.region 2 (regOf Try.f27 2) false) (.ret)))) := by kernel_rfl
theorem p27_0_0 : pj (regOf Try.f27 0) 0 = some (some 4, Op.assign (Operand.const (Value.float FloatKind.f64 0)), 22, none) := by kernel_rfl
theorem p27_1_0 : pj (regOf Try.f27 1) 0 = some (some 5, Op.move (Operand.tmp 0), 22, none) := by kernel_rfl
theorem p27_1_1 : pj (regOf Try.f27 1) 1 = some (some 6, Op.move (Operand.tmp 1), 22, none) := by kernel_rfl
theorem p27_1_2 : pj (regOf Try.f27 1) 2 = some (some 7, Op.call { callee := Callee.value (Operand.func 51), args := #[Operand.tmp 5, Operand.tmp 6], argTypes := #[22, 22] }, 22, none) := by kernel_rfl
theorem p27_1_3 : pj (regOf Try.f27 1) 3 = some (some 4, Op.assign (Operand.tmp 7), 22, none) := by kernel_rfl
set_option maxHeartbeats 4000000 in
theorem max_any (x y : Nat) (hx : 4607182418800017408 ≤ x ∧ x < 9218868437227405312) (hy : 4607182418800017408 ≤ y ∧ y < 9218868437227405312) (w : World) : Calls Try.prog 27 #[.float .f64 x, .float .f64 y] w fun e w' => e = .returned (.float .f64 (if y < x then x else y)) ∧ Kp w w' (fun _ => False) := by
  have K_0 := Kp.refl w (fun _ => False)
  refine enter (args := [Value.float .f64 x, Value.float .f64 y]) (n := 11) Try.func27 body27 rfl rfl rfl ?_
  intro a hE
  refine c_reg R27_0_l ?_
  refine p_cons (s_still p27_0_0 hE wn_none rfl (st_assign rfl) ?_)
  clear hE a; intro a hE
  refine p_nil ?_
  refine x_norm ?_
  refine wp_seq ?_
  refine c_cond (t := true) hE rfl ?_
  refine c_reg R27_1_l ?_
  refine p_cons (s_still p27_1_0 hE wn_none rfl (st_move rfl) ?_)
  clear hE a; intro a hE
  refine p_cons (s_still p27_1_1 hE wn_none rfl (st_move rfl) ?_)
  clear hE a; intro a hE
  refine p_cons (s_still p27_1_2 hE wn_none rfl (st_ext (v := Value.float .f64 (if y < x then x else y)) (xs := [Operand.tmp 5, Operand.tmp 6]) (args := [Value.float .f64 x, Value.float .f64 y]) rfl (ext_max hx hy)) ?_)
  clear hE a; intro a hE
  refine p_cons (s_still p27_1_3 hE wn_none rfl (st_assign rfl) ?_)
  clear hE a; intro a hE
  refine p_nil ?_
  refine x_norm ?_
  refine wp_ret ?_
  refine x_ret ?_
  refine ret_one (v := Value.float .f64 (if y < x then x else y)) rfl hE (.tmp rfl .nil) ?_
  exact ⟨rfl, K_0⟩
theorem R19_0_l : List.range (regOf Try.f19 0).size = [0, 1] := by kernel_rfl
theorem R19_1_l : List.range (regOf Try.f19 1).size = [0, 1] := by kernel_rfl
theorem body19 : Try.f19.body = some (.seq (.region 0 (regOf Try.f19 0) false) (.cond (Operand.tmp 3) (.region 1 (regOf Try.f19 1) false) (.skip))) := by kernel_rfl
theorem p19_0_0 : pj (regOf Try.f19 0) 0 = some (some 2, Op.move (Operand.tmp 0), 34, none) := by kernel_rfl
theorem p19_0_1 : pj (regOf Try.f19 0) 1 = some (some 3, Op.binOp BinOp.neq 34 (Operand.tmp 2) (Operand.const (Value.pointer none)) 34, 4, none) := by kernel_rfl
theorem tP34 : Try.prog.underlying 34 = some (.pointer (Try.prog.pointee 34)) := by kernel_rfl
set_option maxHeartbeats 4000000 in
theorem nil_fail (w : World) : Calls Try.prog 19 #[Value.pointer none] w fun e w' => e = .returned (Value.tuple #[]) ∧ Kp w w' (fun _ => False) := by
  have K_0 := Kp.refl w (fun _ => False)
  refine enter (args := [Value.pointer none]) (n := 6) Try.func19 body19 rfl rfl rfl ?_
  intro a hE
  refine c_reg R19_0_l ?_
  refine p_cons (s_still p19_0_0 hE wn_none rfl (st_move rfl) ?_)
  clear hE a; intro a hE
  refine p_cons (s_still p19_0_1 hE wn_none rfl (st_neqP (b := false) tP34 rfl rfl rfl) ?_)
  clear hE a; intro a hE
  refine p_nil ?_
  refine x_norm ?_
  refine c_cond (t := false) hE rfl ?_
  refine wp_skip ?_
  refine end_of_ret ?_
  refine ret_list (rs := []) (vs := []) rfl hE .nil rfl ?_
  exact ⟨rfl, K_0⟩
theorem R22_0_l : List.range (regOf Try.f22 0).size = [0, 1] := by kernel_rfl
theorem R22_1_l : List.range (regOf Try.f22 1).size = [0, 1, 2] := by kernel_rfl
theorem R22_2_l : List.range (regOf Try.f22 2).size = [0, 1] := by kernel_rfl
theorem R22_3_l : List.range (regOf Try.f22 3).size = [0, 1, 2, 3, 4, 5, 6] := by kernel_rfl
theorem R22_4_l : List.range (regOf Try.f22 4).size = [0, 1] := by kernel_rfl
theorem R22_5_l : List.range (regOf Try.f22 5).size = [0, 1, 2, 3, 4, 5, 6] := by kernel_rfl
theorem body22 : Try.f22.body = some (.seq (.region 0 (regOf Try.f22 0) false) (.seq (.block 0 (.seq (.region 1 (regOf Try.f22 1) false) (.cond (Operand.tmp 4) (.seq (.region 2 (regOf Try.f22 2) false) (.ret)) (.seq (.region 3 (regOf Try.f22 3) false) (.cond (Operand.tmp 7) (.seq (.region 4 (regOf Try.f22 4) false) (.ret)) (.skip)))))) (.seq (.region 5 (regOf Try.f22 5) false) (.ret)))) := by kernel_rfl
theorem p22_0_0 : pj (regOf Try.f22 0) 0 = some (some 2, Op.assign (Operand.const (Value.float FloatKind.f64 0)), 22, none) := by kernel_rfl
theorem p22_0_1 : pj (regOf Try.f22 0) 1 = some (some 3, Op.assign (Operand.const (Value.int IntKind.i64 0)), 23, none) := by kernel_rfl
theorem p22_1_0 : pj (regOf Try.f22 1) 0 = some (some 5, Op.move (Operand.tmp 0), 34, none) := by kernel_rfl
theorem p22_1_1 : pj (regOf Try.f22 1) 1 = some (some 6, Op.binOp BinOp.eql 34 (Operand.tmp 5) (Operand.const (Value.pointer none)) 34, 4, none) := by kernel_rfl
theorem p22_1_2 : pj (regOf Try.f22 1) 2 = some (some 4, Op.assign (Operand.tmp 6), 4, none) := by kernel_rfl
theorem p22_2_0 : pj (regOf Try.f22 2) 0 = some (some 2, Op.assign (Operand.const (Value.float FloatKind.f64 0)), 22, none) := by kernel_rfl
theorem p22_2_1 : pj (regOf Try.f22 2) 1 = some (some 3, Op.assign (Operand.const (Value.int IntKind.i64 13)), 23, none) := by kernel_rfl
set_option maxHeartbeats 4000000 in
theorem nil_mean (w : World) : Calls Try.prog 22 #[Value.pointer none] w fun e w' => e = .returned (Value.tuple #[Value.float .f64 0, Value.int .i64 13]) ∧ Kp w w' (fun _ => False) := by
  have K_0 := Kp.refl w (fun _ => False)
  refine enter (args := [Value.pointer none]) (n := 19) Try.func22 body22 rfl rfl rfl ?_
  intro a hE
  refine c_reg R22_0_l ?_
  refine p_cons (s_still p22_0_0 hE wn_none rfl (st_assign rfl) ?_)
  clear hE a; intro a hE
  refine p_cons (s_still p22_0_1 hE wn_none rfl (st_assign rfl) ?_)
  clear hE a; intro a hE
  refine p_nil ?_
  refine x_norm ?_
  refine wp_seq ?_
  refine wp_block ?_
  refine c_reg R22_1_l ?_
  refine p_cons (s_still p22_1_0 hE wn_none rfl (st_move rfl) ?_)
  clear hE a; intro a hE
  refine p_cons (s_still p22_1_1 hE wn_none rfl (st_eqlP (b := true) tP34 rfl rfl rfl) ?_)
  clear hE a; intro a hE
  refine p_cons (s_still p22_1_2 hE wn_none rfl (st_assign rfl) ?_)
  clear hE a; intro a hE
  refine p_nil ?_
  refine x_norm ?_
  refine c_cond (t := true) hE rfl ?_
  refine c_reg R22_2_l ?_
  refine p_cons (s_still p22_2_0 hE wn_none rfl (st_assign rfl) ?_)
  clear hE a; intro a hE
  refine p_cons (s_still p22_2_1 hE wn_none rfl (st_assign rfl) ?_)
  clear hE a; intro a hE
  refine p_nil ?_
  refine x_norm ?_
  refine wp_ret ?_
  refine x_retB ?_
  refine x_ret ?_
  refine ret_list (rs := [.tmp 2, .tmp 3]) (vs := [Value.float .f64 0, Value.int .i64 13]) rfl hE (.tmp rfl (.tmp rfl .nil)) rfl ?_
  exact ⟨rfl, K_0⟩
theorem R17_0_l : List.range (regOf Try.f17 0).size = [0] := by kernel_rfl
theorem R17_1_l : List.range (regOf Try.f17 1).size = [0, 1, 2] := by kernel_rfl
theorem R17_2_l : List.range (regOf Try.f17 2).size = [0] := by kernel_rfl
theorem R17_3_l : List.range (regOf Try.f17 3).size = [0, 1, 2, 3, 4, 5, 6] := by kernel_rfl
theorem R17_4_l : List.range (regOf Try.f17 4).size = [0] := by kernel_rfl
theorem R17_5_l : List.range (regOf Try.f17 5).size = [0, 1, 2] := by kernel_rfl
theorem R17_6_l : List.range (regOf Try.f17 6).size = [0] := by kernel_rfl
theorem body17 : Try.f17.body = some (.seq (.region 0 (regOf Try.f17 0) false) (.seq (.block 0 (.seq (.region 1 (regOf Try.f17 1) false) (.cond (Operand.tmp 5) (.seq (.region 2 (regOf Try.f17 2) false) (.ret)) (.seq (.region 3 (regOf Try.f17 3) false) (.cond (Operand.tmp 8) (.seq (.region 4 (regOf Try.f17 4) false) (.ret)) (.skip)))))) (.seq (.region 5 (regOf Try.f17 5) false) (.seq (.region 6 (regOf Try.f17 6) false) (.ret))))) := by kernel_rfl
theorem p17_0_0 : pj (regOf Try.f17 0) 0 = some (some 4, Op.assign (Operand.const (Value.int IntKind.i64 0)), 23, none) := by kernel_rfl
theorem p17_1_0 : pj (regOf Try.f17 1) 0 = some (some 6, Op.move (Operand.tmp 0), 34, none) := by kernel_rfl
theorem p17_1_1 : pj (regOf Try.f17 1) 1 = some (some 7, Op.binOp BinOp.eql 34 (Operand.tmp 6) (Operand.const (Value.pointer none)) 34, 4, none) := by kernel_rfl
theorem p17_1_2 : pj (regOf Try.f17 1) 2 = some (some 5, Op.assign (Operand.tmp 7), 4, none) := by kernel_rfl
theorem p17_2_0 : pj (regOf Try.f17 2) 0 = some (some 4, Op.assign (Operand.const (Value.int IntKind.i64 13)), 23, none) := by kernel_rfl
set_option maxHeartbeats 4000000 in
theorem nil_samp (w : World) : Calls Try.prog 17 #[Value.pointer none, Value.int .i64 1] w fun e w' => e = .returned (Value.int .i64 13) ∧ Kp w w' (fun _ => False) := by
  have K_0 := Kp.refl w (fun _ => False)
  refine enter (args := [Value.pointer none, Value.int .i64 1]) (n := 18) Try.func17 body17 rfl rfl rfl ?_
  intro a hE
  refine c_reg R17_0_l ?_
  refine p_cons (s_still p17_0_0 hE wn_none rfl (st_assign rfl) ?_)
  clear hE a; intro a hE
  refine p_nil ?_
  refine x_norm ?_
  refine wp_seq ?_
  refine wp_block ?_
  refine c_reg R17_1_l ?_
  refine p_cons (s_still p17_1_0 hE wn_none rfl (st_move rfl) ?_)
  clear hE a; intro a hE
  refine p_cons (s_still p17_1_1 hE wn_none rfl (st_eqlP (b := true) tP34 rfl rfl rfl) ?_)
  clear hE a; intro a hE
  refine p_cons (s_still p17_1_2 hE wn_none rfl (st_assign rfl) ?_)
  clear hE a; intro a hE
  refine p_nil ?_
  refine x_norm ?_
  refine c_cond (t := true) hE rfl ?_
  refine c_reg R17_2_l ?_
  refine p_cons (s_still p17_2_0 hE wn_none rfl (st_assign rfl) ?_)
  clear hE a; intro a hE
  refine p_nil ?_
  refine x_norm ?_
  refine wp_ret ?_
  refine x_retB ?_
  refine x_ret ?_
  refine ret_one (v := Value.int .i64 13) rfl hE (.tmp rfl .nil) ?_
  exact ⟨rfl, K_0⟩
theorem R20_0_l : List.range (regOf Try.f20 0).size = [0] := by kernel_rfl
theorem R20_1_l : List.range (regOf Try.f20 1).size = [0, 1] := by kernel_rfl
theorem R20_2_l : List.range (regOf Try.f20 2).size = [0] := by kernel_rfl
theorem R20_3_l : List.range (regOf Try.f20 3).size = [0, 1, 2, 3, 4, 5, 6] := by kernel_rfl
theorem R20_4_l : List.range (regOf Try.f20 4).size = [0, 1] := by kernel_rfl
theorem R20_5_l : List.range (regOf Try.f20 5).size = [0, 1] := by kernel_rfl
theorem R20_6_l : List.range (regOf Try.f20 6).size = [0, 1, 2, 3, 4, 5] := by kernel_rfl
theorem R20_7_l : List.range (regOf Try.f20 7).size = [0] := by kernel_rfl
theorem body20 : Try.f20.body = some (.seq (.region 0 (regOf Try.f20 0) false) (.seq (.seq (.region 1 (regOf Try.f20 1) false) (.cond (Operand.tmp 8) (.seq (.region 2 (regOf Try.f20 2) false) (.ret)) (.skip))) (.seq (.seq (.region 3 (regOf Try.f20 3) false) (.seq (.region 4 (regOf Try.f20 4) false) (.cond (Operand.tmp 15) (.seq (.region 5 (regOf Try.f20 5) false) (.ret)) (.skip)))) (.seq (.region 6 (regOf Try.f20 6) false) (.seq (.region 7 (regOf Try.f20 7) false) (.ret)))))) := by kernel_rfl
theorem p20_0_0 : pj (regOf Try.f20 0) 0 = some (some 4, Op.assign (Operand.const (Value.int IntKind.i64 0)), 23, none) := by kernel_rfl
theorem p20_1_0 : pj (regOf Try.f20 1) 0 = some (some 7, Op.move (Operand.tmp 0), 34, none) := by kernel_rfl
theorem p20_1_1 : pj (regOf Try.f20 1) 1 = some (some 8, Op.binOp BinOp.eql 34 (Operand.tmp 7) (Operand.const (Value.pointer none)) 34, 4, none) := by kernel_rfl
theorem p20_2_0 : pj (regOf Try.f20 2) 0 = some (some 4, Op.assign (Operand.const (Value.int IntKind.i64 13)), 23, none) := by kernel_rfl
set_option maxHeartbeats 4000000 in
theorem nil_set (w : World) : Calls Try.prog 20 #[Value.pointer none, Value.float .f64 4607182418800017408] w fun e w' => e = .returned (Value.int .i64 13) ∧ Kp w w' (fun _ => False) := by
  have K_0 := Kp.refl w (fun _ => False)
  refine enter (args := [Value.pointer none, Value.float .f64 4607182418800017408]) (n := 22) Try.func20 body20 rfl rfl rfl ?_
  intro a hE
  refine c_reg R20_0_l ?_
  refine p_cons (s_still p20_0_0 hE wn_none rfl (st_assign rfl) ?_)
  clear hE a; intro a hE
  refine p_nil ?_
  refine x_norm ?_
  refine wp_seq ?_
  refine c_reg R20_1_l ?_
  refine p_cons (s_still p20_1_0 hE wn_none rfl (st_move rfl) ?_)
  clear hE a; intro a hE
  refine p_cons (s_still p20_1_1 hE wn_none rfl (st_eqlP (b := true) tP34 rfl rfl rfl) ?_)
  clear hE a; intro a hE
  refine p_nil ?_
  refine x_norm ?_
  refine c_cond (t := true) hE rfl ?_
  refine c_reg R20_2_l ?_
  refine p_cons (s_still p20_2_0 hE wn_none rfl (st_assign rfl) ?_)
  clear hE a; intro a hE
  refine p_nil ?_
  refine x_norm ?_
  refine wp_ret ?_
  refine x_ret ?_
  refine ret_one (v := Value.int .i64 13) rfl hE (.tmp rfl .nil) ?_
  exact ⟨rfl, K_0⟩
theorem R23_0_l : List.range (regOf Try.f23 0).size = [0] := by kernel_rfl
theorem R23_1_l : List.range (regOf Try.f23 1).size = [0, 1] := by kernel_rfl
theorem R23_2_l : List.range (regOf Try.f23 2).size = [0] := by kernel_rfl
theorem R23_3_l : List.range (regOf Try.f23 3).size = [0, 1, 2, 3, 4] := by kernel_rfl
theorem body23 : Try.f23.body = some (.seq (.region 0 (regOf Try.f23 0) false) (.seq (.seq (.region 1 (regOf Try.f23 1) false) (.cond (Operand.tmp 4) (.seq (.region 2 (regOf Try.f23 2) false) (.ret)) (.skip))) (.seq (.region 3 (regOf Try.f23 3) false) (.ret)))) := by kernel_rfl
theorem p23_0_0 : pj (regOf Try.f23 0) 0 = some (some 2, Op.assign (Operand.const (Value.int IntKind.i64 0)), 3, none) := by kernel_rfl
theorem p23_1_0 : pj (regOf Try.f23 1) 0 = some (some 3, Op.move (Operand.tmp 0), 34, none) := by kernel_rfl
theorem p23_1_1 : pj (regOf Try.f23 1) 1 = some (some 4, Op.binOp BinOp.eql 34 (Operand.tmp 3) (Operand.const (Value.pointer none)) 34, 4, none) := by kernel_rfl
theorem p23_2_0 : pj (regOf Try.f23 2) 0 = some (some 2, Op.assign (Operand.const (Value.int IntKind.i64 0)), 3, none) := by kernel_rfl
set_option maxHeartbeats 4000000 in
theorem nil_sent (w : World) : Calls Try.prog 23 #[Value.pointer none] w fun e w' => e = .returned (Value.int .i64 0) ∧ Kp w w' (fun _ => False) := by
  have K_0 := Kp.refl w (fun _ => False)
  refine enter (args := [Value.pointer none]) (n := 9) Try.func23 body23 rfl rfl rfl ?_
  intro a hE
  refine c_reg R23_0_l ?_
  refine p_cons (s_still p23_0_0 hE wn_none rfl (st_assign rfl) ?_)
  clear hE a; intro a hE
  refine p_nil ?_
  refine x_norm ?_
  refine wp_seq ?_
  refine c_reg R23_1_l ?_
  refine p_cons (s_still p23_1_0 hE wn_none rfl (st_move rfl) ?_)
  clear hE a; intro a hE
  refine p_cons (s_still p23_1_1 hE wn_none rfl (st_eqlP (b := true) tP34 rfl rfl rfl) ?_)
  clear hE a; intro a hE
  refine p_nil ?_
  refine x_norm ?_
  refine c_cond (t := true) hE rfl ?_
  refine c_reg R23_2_l ?_
  refine p_cons (s_still p23_2_0 hE wn_none rfl (st_assign rfl) ?_)
  clear hE a; intro a hE
  refine p_nil ?_
  refine x_norm ?_
  refine wp_ret ?_
  refine x_ret ?_
  refine ret_one (v := Value.int .i64 0) rfl hE (.tmp rfl .nil) ?_
  exact ⟨rfl, K_0⟩
theorem R21_0_l : List.range (regOf Try.f21 0).size = [0] := by kernel_rfl
theorem R21_1_l : List.range (regOf Try.f21 1).size = [0, 1] := by kernel_rfl
theorem R21_2_l : List.range (regOf Try.f21 2).size = [0] := by kernel_rfl
theorem R21_3_l : List.range (regOf Try.f21 3).size = [0, 1, 2, 3, 4] := by kernel_rfl
theorem R21_4_l : List.range (regOf Try.f21 4).size = [0] := by kernel_rfl
theorem body21 : Try.f21.body = some (.seq (.region 0 (regOf Try.f21 0) false) (.seq (.seq (.region 1 (regOf Try.f21 1) false) (.cond (Operand.tmp 5) (.seq (.region 2 (regOf Try.f21 2) false) (.ret)) (.skip))) (.seq (.region 3 (regOf Try.f21 3) false) (.seq (.region 4 (regOf Try.f21 4) false) (.ret))))) := by kernel_rfl
theorem p21_0_0 : pj (regOf Try.f21 0) 0 = some (some 2, Op.assign (Operand.const (Value.pointer none)), 34, none) := by kernel_rfl
theorem p21_1_0 : pj (regOf Try.f21 1) 0 = some (some 4, Op.move (Operand.tmp 0), 34, none) := by kernel_rfl
theorem p21_1_1 : pj (regOf Try.f21 1) 1 = some (some 5, Op.binOp BinOp.eql 34 (Operand.tmp 4) (Operand.const (Value.pointer none)) 34, 4, none) := by kernel_rfl
theorem p21_2_0 : pj (regOf Try.f21 2) 0 = some (some 2, Op.assign (Operand.const (Value.pointer none)), 34, none) := by kernel_rfl
set_option maxHeartbeats 4000000 in
theorem nil_copy (w : World) : Calls Try.prog 21 #[Value.pointer none] w fun e w' => e = .returned (Value.pointer none) ∧ Kp w w' (fun _ => False) := by
  have K_0 := Kp.refl w (fun _ => False)
  refine enter (args := [Value.pointer none]) (n := 9) Try.func21 body21 rfl rfl rfl ?_
  intro a hE
  refine c_reg R21_0_l ?_
  refine p_cons (s_still p21_0_0 hE wn_none rfl (st_assign rfl) ?_)
  clear hE a; intro a hE
  refine p_nil ?_
  refine x_norm ?_
  refine wp_seq ?_
  refine c_reg R21_1_l ?_
  refine p_cons (s_still p21_1_0 hE wn_none rfl (st_move rfl) ?_)
  clear hE a; intro a hE
  refine p_cons (s_still p21_1_1 hE wn_none rfl (st_eqlP (b := true) tP34 rfl rfl rfl) ?_)
  clear hE a; intro a hE
  refine p_nil ?_
  refine x_norm ?_
  refine c_cond (t := true) hE rfl ?_
  refine c_reg R21_2_l ?_
  refine p_cons (s_still p21_2_0 hE wn_none rfl (st_assign rfl) ?_)
  clear hE a; intro a hE
  refine p_nil ?_
  refine x_norm ?_
  refine wp_ret ?_
  refine x_ret ?_
  refine ret_one (v := Value.pointer none) rfl hE (.tmp rfl .nil) ?_
  exact ⟨rfl, K_0⟩
theorem R24_0_l : List.range (regOf Try.f24 0).size = [0] := by kernel_rfl
theorem R24_1_l : List.range (regOf Try.f24 1).size = [0, 1, 2, 3, 4, 5, 6] := by kernel_rfl
theorem R24_2_l : List.range (regOf Try.f24 2).size = [0, 1] := by kernel_rfl
theorem R24_3_l : List.range (regOf Try.f24 3).size = [0] := by kernel_rfl
theorem R24_4_l : List.range (regOf Try.f24 4).size = [0, 1, 2, 3, 4, 5, 6] := by kernel_rfl
theorem R24_5_l : List.range (regOf Try.f24 5).size = [0, 1] := by kernel_rfl
theorem body24 : Try.f24.body = some (.seq (.region 0 (regOf Try.f24 0) false) (.seq (.region 1 (regOf Try.f24 1) false) (.seq (.seq (.region 2 (regOf Try.f24 2) false) (.cond (Operand.tmp 13) (.seq (.region 3 (regOf Try.f24 3) false) (.ret)) (.skip))) (.seq (.region 4 (regOf Try.f24 4) false) (.seq (.region 5 (regOf Try.f24 5) false) (.ret)))))) := by kernel_rfl
theorem p24_0_0 : pj (regOf Try.f24 0) 0 = some (some 2, Op.assign (Operand.const (Value.int IntKind.i64 0)), 3, none) := by kernel_rfl
theorem p24_1_0 : pj (regOf Try.f24 1) 0 = some (some 8, Op.move (Operand.tmp 0), 34, none) := by kernel_rfl
theorem p24_1_1 : pj (regOf Try.f24 1) 1 = some (some 9, Op.call { callee := Callee.value (Operand.func 22), args := #[Operand.tmp 8], argTypes := #[34] }, 28, none) := by kernel_rfl
theorem cl22 : callable Try.f22 = true := by kernel_rfl
theorem p24_1_2 : pj (regOf Try.f24 1) 2 = some (some 7, Op.move (Operand.tmp 9), 28, none) := by kernel_rfl
theorem p24_1_3 : pj (regOf Try.f24 1) 3 = some (some 10, Op.extract (Operand.tmp 7) 0, 22, none) := by kernel_rfl
theorem p24_1_4 : pj (regOf Try.f24 1) 4 = some (some 11, Op.extract (Operand.tmp 7) 1, 23, none) := by kernel_rfl
theorem p24_1_5 : pj (regOf Try.f24 1) 5 = some (some 3, Op.assign (Operand.tmp 10), 22, none) := by kernel_rfl
theorem p24_1_6 : pj (regOf Try.f24 1) 6 = some (some 4, Op.assign (Operand.tmp 11), 23, none) := by kernel_rfl
theorem p24_2_0 : pj (regOf Try.f24 2) 0 = some (some 12, Op.move (Operand.tmp 4), 23, none) := by kernel_rfl
theorem p24_2_1 : pj (regOf Try.f24 2) 1 = some (some 13, Op.binOp BinOp.neq 23 (Operand.tmp 12) (Operand.const (Value.int IntKind.i64 0)) 23, 4, none) := by kernel_rfl
theorem p24_3_0 : pj (regOf Try.f24 3) 0 = some (some 2, Op.assign (Operand.const (Value.int IntKind.i64 65535)), 3, none) := by kernel_rfl
set_option maxHeartbeats 4000000 in
theorem nil_cost (w : World) : Calls Try.prog 24 #[Value.pointer none] w fun e w' => e = .returned (.int .i64 65535) ∧ Kp w w' (fun _ => False) := by
  have K_0 := Kp.refl w (fun _ => False)
  refine enter (args := [Value.pointer none]) (n := 20) Try.func24 body24 rfl rfl rfl ?_
  intro a hE
  refine c_reg R24_0_l ?_
  refine p_cons (s_still p24_0_0 hE wn_none rfl (st_assign rfl) ?_)
  clear hE a; intro a hE
  refine p_nil ?_
  refine x_norm ?_
  refine c_reg R24_1_l ?_
  refine p_cons (s_still p24_1_0 hE wn_none rfl (st_move rfl) ?_)
  clear hE a; intro a hE
  refine p_cons (s_call (xs := [Operand.tmp 8]) (args := [Value.pointer none]) p24_1_1 hE wn_none rfl rfl Try.func22 cl22 (nil_mean  _) ?_)
  rintro e w1 ⟨rfl, hk⟩
  replace K_0 := K_0.then_ hk (fun _ h => h.elim)
  refine ⟨_, rfl, ?_⟩
  clear hE a; intro a hE
  refine p_cons (s_still p24_1_2 hE wn_none rfl (st_move rfl) ?_)
  clear hE a; intro a hE
  refine p_cons (s_still p24_1_3 hE wn_none rfl (st_extract rfl rfl) ?_)
  clear hE a; intro a hE
  refine p_cons (s_still p24_1_4 hE wn_none rfl (st_extract rfl rfl) ?_)
  clear hE a; intro a hE
  refine p_cons (s_still p24_1_5 hE wn_none rfl (st_assign rfl) ?_)
  clear hE a; intro a hE
  refine p_cons (s_still p24_1_6 hE wn_none rfl (st_assign rfl) ?_)
  clear hE a; intro a hE
  refine p_nil ?_
  refine x_norm ?_
  refine wp_seq ?_
  refine c_reg R24_2_l ?_
  refine p_cons (s_still p24_2_0 hE wn_none rfl (st_move rfl) ?_)
  clear hE a; intro a hE
  refine p_cons (s_still p24_2_1 hE wn_none rfl (st_neq (b := true) rfl rfl (by decide)) ?_)
  clear hE a; intro a hE
  refine p_nil ?_
  refine x_norm ?_
  refine c_cond (t := true) hE rfl ?_
  refine c_reg R24_3_l ?_
  refine p_cons (s_still p24_3_0 hE wn_none rfl (st_assign rfl) ?_)
  clear hE a; intro a hE
  refine p_nil ?_
  refine x_norm ?_
  refine wp_ret ?_
  refine x_ret ?_
  refine ret_one (v := Value.int .i64 65535) rfl hE (.tmp rfl .nil) ?_
  exact ⟨rfl, K_0⟩
theorem R6_0_l : List.range (regOf Try.f6 0).size = [0] := by kernel_rfl
theorem R6_1_l : List.range (regOf Try.f6 1).size = [0] := by kernel_rfl
theorem R6_2_l : List.range (regOf Try.f6 2).size = [0] := by kernel_rfl
theorem R6_3_l : List.range (regOf Try.f6 3).size = [0] := by kernel_rfl
theorem R6_4_l : List.range (regOf Try.f6 4).size = [0, 1, 2, 3, 4, 5, 6, 7] := by kernel_rfl
theorem R6_6_l : List.range (regOf Try.f6 6).size = [0, 1, 2, 3, 4, 5, 6, 7, 8] := by kernel_rfl
theorem R6_7_l : List.range (regOf Try.f6 7).size = [0, 1, 2] := by kernel_rfl
theorem R6_8_l : List.range (regOf Try.f6 8).size = [0] := by kernel_rfl
theorem R6_9_l : List.range (regOf Try.f6 9).size = [0, 1, 2, 3, 4, 5] := by kernel_rfl
theorem R6_10_l : List.range (regOf Try.f6 10).size = [0, 1, 2, 3, 4, 5, 6, 7, 8, 9, 10, 11, 12, 13, 14, 15, 16, 17, 18, 19, 20, 21, 22, 23, 24, 25, 26, 27, 28, 29] := by kernel_rfl
theorem R6_11_l : List.range (regOf Try.f6 11).size = [0] := by kernel_rfl
theorem R6_12_l : List.range (regOf Try.f6 12).size = [0, 1] := by kernel_rfl
theorem R6_5_l : List.range (regOf Try.f6 5).size = [0, 1, 2] := by kernel_rfl
theorem R6_13_l : List.range (regOf Try.f6 13).size = [0] := by kernel_rfl
theorem R6_14_l : List.range (regOf Try.f6 14).size = [0, 1] := by kernel_rfl
theorem R6_15_l : List.range (regOf Try.f6 15).size = [0, 1, 2, 3, 4, 5, 6] := by kernel_rfl
theorem R6_16_l : List.range (regOf Try.f6 16).size = [0, 1, 2, 3, 4, 5, 6, 7, 8, 9, 10, 11, 12, 13, 14, 15, 16, 17, 18, 19, 20, 21, 22, 23, 24, 25, 26, 27, 28, 29, 30] := by kernel_rfl
theorem body6 : Try.f6.body = some (.seq (.region 0 (regOf Try.f6 0) false) (.seq (.region 1 (regOf Try.f6 1) false) (.seq (.region 2 (regOf Try.f6 2) false) (.seq (.seq (.region 3 (regOf Try.f6 3) false) (.block 0 (.loop (.seq (.seq (.region 4 (regOf Try.f6 4) false) (.cond (Operand.tmp 19) (.skip) (.exit 0))) (.seq (.block 1 (.seq (.region 6 (regOf Try.f6 6) false) (.seq (.seq (.region 7 (regOf Try.f6 7) false) (.cond (Operand.tmp 32) (.seq (.region 8 (regOf Try.f6 8) false) (.ret)) (.skip))) (.seq (.region 9 (regOf Try.f6 9) false) (.seq (.seq (.region 10 (regOf Try.f6 10) false) (.cond (Operand.tmp 66) (.seq (.region 11 (regOf Try.f6 11) false) (.ret)) (.skip))) (.region 12 (regOf Try.f6 12) false)))))) (.region 5 (regOf Try.f6 5) false)))))) (.seq (.region 13 (regOf Try.f6 13) false) (.seq (.region 14 (regOf Try.f6 14) false) (.seq (.region 15 (regOf Try.f6 15) false) (.seq (.region 16 (regOf Try.f6 16) false) (.ret))))))))) := by kernel_rfl
theorem p6_0_0 : pj (regOf Try.f6 0) 0 = some (some 2, Op.assign (Operand.const (Value.bool false)), 4, none) := by kernel_rfl
theorem p6_1_0 : pj (regOf Try.f6 1) 0 = some (some 3, Op.alloc 38, 0, none) := by kernel_rfl
theorem tZ38 : (Try.prog.info? 38).bind (·.zero) = some (Value.agg #[Value.float .f64 0, Value.bool false, Value.int .i64 0]) := by kernel_rfl
theorem p6_2_0 : pj (regOf Try.f6 2) 0 = some (some 4, Op.assign (Operand.const (Value.float FloatKind.f64 0)), 22, none) := by kernel_rfl
theorem p6_3_0 : pj (regOf Try.f6 3) 0 = some (some 5, Op.assign (Operand.const (Value.int IntKind.i64 0)), 3, none) := by kernel_rfl
theorem p6_4_0 : pj (regOf Try.f6 4) 0 = some (some 12, Op.move (Operand.tmp 5), 3, none) := by kernel_rfl
theorem p6_4_1 : pj (regOf Try.f6 4) 1 = some (some 13, Op.move (Operand.tmp 0), 52, none) := by kernel_rfl
theorem p6_4_2 : pj (regOf Try.f6 4) 2 = some (some 14, Op.call { callee := Callee.builtin Builtin.len, args := #[Operand.tmp 13], argTypes := #[52] }, 3, none) := by kernel_rfl
theorem p6_4_3 : pj (regOf Try.f6 4) 3 = some (some 15, Op.binOp BinOp.lss 3 (Operand.tmp 12) (Operand.tmp 14) 3, 4, none) := by kernel_rfl
theorem p6_4_4 : pj (regOf Try.f6 4) 4 = some (some 16, Op.move (Operand.tmp 15), 4, none) := by kernel_rfl
theorem p6_4_5 : pj (regOf Try.f6 4) 5 = some (some 17, Op.move (Operand.tmp 5), 3, some (4, true)) := by kernel_rfl
theorem g6_4_4 : dstOf (regOf Try.f6 4) 4 = some 16 := by kernel_rfl
theorem p6_4_6 : pj (regOf Try.f6 4) 6 = some (some 18, Op.binOp BinOp.lss 3 (Operand.tmp 17) (Operand.const (Value.int IntKind.i64 60)) 3, 4, some (4, true)) := by kernel_rfl
theorem p6_4_7 : pj (regOf Try.f6 4) 7 = some (some 19, Op.pick (Operand.tmp 16) (Operand.tmp 18) (Operand.const (Value.bool false)), 4, none) := by kernel_rfl
theorem p6_6_0 : pj (regOf Try.f6 6) 0 = some (some 22, Op.move (Operand.tmp 0), 52, none) := by kernel_rfl
theorem p6_6_1 : pj (regOf Try.f6 6) 1 = some (some 23, Op.move (Operand.tmp 5), 3, none) := by kernel_rfl
theorem p6_6_2 : pj (regOf Try.f6 6) 2 = some (some 24, Op.indexAddr 52 (Operand.tmp 22) (Operand.tmp 23), 0, none) := by kernel_rfl
theorem tS3 : (Try.prog.info? 3).map (·.size) = some 1 := by kernel_rfl
theorem p6_6_3 : pj (regOf Try.f6 6) 3 = some (some 25, Op.load 3 (Operand.tmp 24), 3, none) := by kernel_rfl
theorem tA3 : (Try.prog.underlying 3).map aggD = some false := by kernel_rfl
theorem p6_6_4 : pj (regOf Try.f6 6) 4 = some (some 26, Op.convert 3 44 (Operand.tmp 25), 44, none) := by kernel_rfl
theorem p6_6_5 : pj (regOf Try.f6 6) 5 = some (some 27, Op.binOp BinOp.rem 44 (Operand.tmp 26) (Operand.const (Value.int IntKind.u64 16)) 44, 44, none) := by kernel_rfl
theorem p6_6_6 : pj (regOf Try.f6 6) 6 = some (some 28, Op.convert 44 3 (Operand.tmp 27), 3, none) := by kernel_rfl
theorem p6_6_7 : pj (regOf Try.f6 6) 7 = some (some 29, Op.binOp BinOp.add 3 (Operand.const (Value.int IntKind.i64 1)) (Operand.tmp 28) 3, 3, none) := by kernel_rfl
theorem p6_6_8 : pj (regOf Try.f6 6) 8 = some (some 6, Op.assign (Operand.tmp 29), 3, none) := by kernel_rfl
theorem p6_7_0 : pj (regOf Try.f6 7) 0 = some (some 30, Op.move (Operand.tmp 6), 3, none) := by kernel_rfl
theorem p6_7_1 : pj (regOf Try.f6 7) 1 = some (some 31, Op.call { callee := Callee.value (Operand.func 17), args := #[Operand.tmp 3, Operand.tmp 30], argTypes := #[38, 3] }, 23, none) := by kernel_rfl
theorem cl17 : callable Try.f17 = true := by kernel_rfl
theorem p6_7_2 : pj (regOf Try.f6 7) 2 = some (some 32, Op.binOp BinOp.neq 23 (Operand.tmp 31) (Operand.const (Value.int IntKind.i64 0)) 23, 4, none) := by kernel_rfl
theorem p6_9_0 : pj (regOf Try.f6 9) 0 = some (some 34, Op.call { callee := Callee.value (Operand.func 22), args := #[Operand.tmp 3], argTypes := #[38] }, 28, none) := by kernel_rfl
theorem p6_9_1 : pj (regOf Try.f6 9) 1 = some (some 33, Op.move (Operand.tmp 34), 28, none) := by kernel_rfl
theorem p6_9_2 : pj (regOf Try.f6 9) 2 = some (some 35, Op.extract (Operand.tmp 33) 0, 22, none) := by kernel_rfl
theorem p6_9_3 : pj (regOf Try.f6 9) 3 = some (some 36, Op.extract (Operand.tmp 33) 1, 23, none) := by kernel_rfl
theorem p6_9_4 : pj (regOf Try.f6 9) 4 = some (some 7, Op.assign (Operand.tmp 35), 22, none) := by kernel_rfl
theorem p6_9_5 : pj (regOf Try.f6 9) 5 = some (some 8, Op.assign (Operand.tmp 36), 23, none) := by kernel_rfl
theorem p6_10_0 : pj (regOf Try.f6 10) 0 = some (some 37, Op.move (Operand.tmp 8), 23, none) := by kernel_rfl
theorem p6_10_1 : pj (regOf Try.f6 10) 1 = some (some 38, Op.binOp BinOp.neq 23 (Operand.tmp 37) (Operand.const (Value.int IntKind.i64 0)) 23, 4, none) := by kernel_rfl
theorem p6_10_2 : pj (regOf Try.f6 10) 2 = some (some 39, Op.move (Operand.tmp 38), 4, none) := by kernel_rfl
theorem p6_10_3 : pj (regOf Try.f6 10) 3 = some (some 40, Op.move (Operand.tmp 7), 22, some (2, false)) := by kernel_rfl
theorem g6_10_2 : dstOf (regOf Try.f6 10) 2 = some 39 := by kernel_rfl
theorem p6_10_4 : pj (regOf Try.f6 10) 4 = some (some 41, Op.binOp BinOp.lss 22 (Operand.tmp 40) (Operand.const (Value.float FloatKind.f64 4607182418800017408)) 22, 4, some (2, false)) := by kernel_rfl
theorem p6_10_5 : pj (regOf Try.f6 10) 5 = some (some 42, Op.pick (Operand.tmp 39) (Operand.const (Value.bool true)) (Operand.tmp 41), 4, none) := by kernel_rfl
theorem p6_10_6 : pj (regOf Try.f6 10) 6 = some (some 43, Op.move (Operand.tmp 42), 4, none) := by kernel_rfl
theorem p6_10_7 : pj (regOf Try.f6 10) 7 = some (some 44, Op.move (Operand.tmp 7), 22, some (6, false)) := by kernel_rfl
theorem g6_10_6 : dstOf (regOf Try.f6 10) 6 = some 43 := by kernel_rfl
theorem p6_10_8 : pj (regOf Try.f6 10) 8 = some (some 45, Op.binOp BinOp.gtr 22 (Operand.tmp 44) (Operand.const (Value.float FloatKind.f64 4625196817309499392)) 22, 4, some (6, false)) := by kernel_rfl
theorem p6_10_9 : pj (regOf Try.f6 10) 9 = some (some 46, Op.pick (Operand.tmp 43) (Operand.const (Value.bool true)) (Operand.tmp 45), 4, none) := by kernel_rfl
theorem p6_10_10 : pj (regOf Try.f6 10) 10 = some (some 47, Op.move (Operand.tmp 46), 4, none) := by kernel_rfl
theorem p6_10_11 : pj (regOf Try.f6 10) 11 = some (some 48, Op.move (Operand.tmp 5), 3, some (10, false)) := by kernel_rfl
theorem g6_10_10 : dstOf (regOf Try.f6 10) 10 = some 47 := by kernel_rfl
theorem p6_10_12 : pj (regOf Try.f6 10) 12 = some (some 49, Op.binOp BinOp.gtr 3 (Operand.tmp 48) (Operand.const (Value.int IntKind.i64 0)) 3, 4, some (10, false)) := by kernel_rfl
theorem p6_10_13 : pj (regOf Try.f6 10) 13 = some (some 50, Op.move (Operand.tmp 49), 4, some (10, false)) := by kernel_rfl
theorem p6_10_14 : pj (regOf Try.f6 10) 14 = some (some 51, Op.move (Operand.tmp 7), 22, some (13, true)) := by kernel_rfl
theorem g6_10_13 : dstOf (regOf Try.f6 10) 13 = some 50 := by kernel_rfl
theorem p6_10_15 : pj (regOf Try.f6 10) 15 = some (some 52, Op.move (Operand.tmp 4), 22, some (13, true)) := by kernel_rfl
theorem p6_10_16 : pj (regOf Try.f6 10) 16 = some (some 53, Op.move (Operand.tmp 6), 3, some (13, true)) := by kernel_rfl
theorem p6_10_17 : pj (regOf Try.f6 10) 17 = some (some 54, Op.convert 3 22 (Operand.tmp 53), 22, some (13, true)) := by kernel_rfl
theorem p6_10_18 : pj (regOf Try.f6 10) 18 = some (some 55, Op.call { callee := Callee.value (Operand.func 26), args := #[Operand.tmp 52, Operand.tmp 54], argTypes := #[22, 22] }, 22, some (13, true)) := by kernel_rfl
theorem p6_10_19 : pj (regOf Try.f6 10) 19 = some (some 56, Op.binOp BinOp.lss 22 (Operand.tmp 51) (Operand.tmp 55) 22, 4, some (13, true)) := by kernel_rfl
theorem p6_10_20 : pj (regOf Try.f6 10) 20 = some (some 57, Op.move (Operand.tmp 56), 4, some (13, true)) := by kernel_rfl
theorem p6_10_21 : pj (regOf Try.f6 10) 21 = some (some 58, Op.move (Operand.tmp 7), 22, some (20, false)) := by kernel_rfl
theorem g6_10_20 : dstOf (regOf Try.f6 10) 20 = some 57 := by kernel_rfl
theorem p6_10_22 : pj (regOf Try.f6 10) 22 = some (some 59, Op.move (Operand.tmp 4), 22, some (20, false)) := by kernel_rfl
theorem p6_10_23 : pj (regOf Try.f6 10) 23 = some (some 60, Op.move (Operand.tmp 6), 3, some (20, false)) := by kernel_rfl
theorem p6_10_24 : pj (regOf Try.f6 10) 24 = some (some 61, Op.convert 3 22 (Operand.tmp 60), 22, some (20, false)) := by kernel_rfl
theorem p6_10_25 : pj (regOf Try.f6 10) 25 = some (some 62, Op.call { callee := Callee.value (Operand.func 27), args := #[Operand.tmp 59, Operand.tmp 61], argTypes := #[22, 22] }, 22, some (20, false)) := by kernel_rfl
theorem p6_10_26 : pj (regOf Try.f6 10) 26 = some (some 63, Op.binOp BinOp.gtr 22 (Operand.tmp 58) (Operand.tmp 62) 22, 4, some (20, false)) := by kernel_rfl
theorem p6_10_27 : pj (regOf Try.f6 10) 27 = some (some 64, Op.pick (Operand.tmp 57) (Operand.const (Value.bool true)) (Operand.tmp 63), 4, some (13, true)) := by kernel_rfl
theorem p6_10_28 : pj (regOf Try.f6 10) 28 = some (some 65, Op.pick (Operand.tmp 50) (Operand.tmp 64) (Operand.const (Value.bool false)), 4, some (10, false)) := by kernel_rfl
theorem p6_10_29 : pj (regOf Try.f6 10) 29 = some (some 66, Op.pick (Operand.tmp 47) (Operand.const (Value.bool true)) (Operand.tmp 65), 4, none) := by kernel_rfl
theorem p6_12_0 : pj (regOf Try.f6 12) 0 = some (some 67, Op.move (Operand.tmp 7), 22, none) := by kernel_rfl
theorem p6_12_1 : pj (regOf Try.f6 12) 1 = some (some 4, Op.assign (Operand.tmp 67), 22, none) := by kernel_rfl
theorem p6_5_0 : pj (regOf Try.f6 5) 0 = some (some 20, Op.move (Operand.tmp 5), 3, none) := by kernel_rfl
theorem p6_5_1 : pj (regOf Try.f6 5) 1 = some (some 21, Op.binOp BinOp.add 3 (Operand.tmp 20) (Operand.const (Value.int IntKind.i64 1)) 3, 3, none) := by kernel_rfl
theorem p6_5_2 : pj (regOf Try.f6 5) 2 = some (some 5, Op.assign (Operand.tmp 21), 3, none) := by kernel_rfl
theorem cl26 : callable Try.f26 = true := by kernel_rfl
theorem cl27 : callable Try.f27 = true := by kernel_rfl
theorem p6_13_0 : pj (regOf Try.f6 13) 0 = some (some 9, Op.assign (Operand.const (Value.pointer none)), 34, none) := by kernel_rfl
theorem p6_14_0 : pj (regOf Try.f6 14) 0 = some (some 68, Op.move (Operand.tmp 9), 34, none) := by kernel_rfl
theorem p6_14_1 : pj (regOf Try.f6 14) 1 = some (some 69, Op.call { callee := Callee.value (Operand.func 19), args := #[Operand.tmp 68], argTypes := #[34] }, 0, none) := by kernel_rfl
theorem cl19 : callable Try.f19 = true := by kernel_rfl
theorem p6_15_0 : pj (regOf Try.f6 15) 0 = some (some 71, Op.move (Operand.tmp 9), 34, none) := by kernel_rfl
theorem p6_15_1 : pj (regOf Try.f6 15) 1 = some (some 72, Op.call { callee := Callee.value (Operand.func 22), args := #[Operand.tmp 71], argTypes := #[34] }, 28, none) := by kernel_rfl
theorem p6_15_2 : pj (regOf Try.f6 15) 2 = some (some 70, Op.move (Operand.tmp 72), 28, none) := by kernel_rfl
theorem p6_15_3 : pj (regOf Try.f6 15) 3 = some (some 73, Op.extract (Operand.tmp 70) 0, 22, none) := by kernel_rfl
theorem p6_15_4 : pj (regOf Try.f6 15) 4 = some (some 74, Op.extract (Operand.tmp 70) 1, 23, none) := by kernel_rfl
theorem p6_15_5 : pj (regOf Try.f6 15) 5 = some (some 10, Op.assign (Operand.tmp 73), 22, none) := by kernel_rfl
theorem p6_15_6 : pj (regOf Try.f6 15) 6 = some (some 11, Op.assign (Operand.tmp 74), 23, none) := by kernel_rfl
theorem p6_16_0 : pj (regOf Try.f6 16) 0 = some (some 75, Op.call { callee := Callee.value (Operand.func 12), args := #[], argTypes := #[] }, 4, none) := by kernel_rfl
theorem cl12 : callable Try.f12 = true := by kernel_rfl
theorem p6_16_1 : pj (regOf Try.f6 16) 1 = some (some 76, Op.move (Operand.tmp 75), 4, none) := by kernel_rfl
theorem p6_16_2 : pj (regOf Try.f6 16) 2 = some (some 77, Op.move (Operand.tmp 11), 23, some (1, true)) := by kernel_rfl
theorem g6_16_1 : dstOf (regOf Try.f6 16) 1 = some 76 := by kernel_rfl
theorem p6_16_3 : pj (regOf Try.f6 16) 3 = some (some 78, Op.binOp BinOp.eql 23 (Operand.tmp 77) (Operand.const (Value.int IntKind.i64 13)) 23, 4, some (1, true)) := by kernel_rfl
theorem p6_16_4 : pj (regOf Try.f6 16) 4 = some (some 79, Op.pick (Operand.tmp 76) (Operand.tmp 78) (Operand.const (Value.bool false)), 4, none) := by kernel_rfl
theorem p6_16_5 : pj (regOf Try.f6 16) 5 = some (some 80, Op.move (Operand.tmp 79), 4, none) := by kernel_rfl
theorem p6_16_6 : pj (regOf Try.f6 16) 6 = some (some 81, Op.move (Operand.tmp 9), 34, some (5, true)) := by kernel_rfl
theorem g6_16_5 : dstOf (regOf Try.f6 16) 5 = some 80 := by kernel_rfl
theorem p6_16_7 : pj (regOf Try.f6 16) 7 = some (some 82, Op.call { callee := Callee.value (Operand.func 17), args := #[Operand.tmp 81, Operand.const (Value.int IntKind.i64 1)], argTypes := #[34, 3] }, 23, some (5, true)) := by kernel_rfl
theorem p6_16_8 : pj (regOf Try.f6 16) 8 = some (some 83, Op.binOp BinOp.eql 23 (Operand.tmp 82) (Operand.const (Value.int IntKind.i64 13)) 23, 4, some (5, true)) := by kernel_rfl
theorem p6_16_9 : pj (regOf Try.f6 16) 9 = some (some 84, Op.pick (Operand.tmp 80) (Operand.tmp 83) (Operand.const (Value.bool false)), 4, none) := by kernel_rfl
theorem p6_16_10 : pj (regOf Try.f6 16) 10 = some (some 85, Op.move (Operand.tmp 84), 4, none) := by kernel_rfl
theorem p6_16_11 : pj (regOf Try.f6 16) 11 = some (some 86, Op.move (Operand.tmp 9), 34, some (10, true)) := by kernel_rfl
theorem g6_16_10 : dstOf (regOf Try.f6 16) 10 = some 85 := by kernel_rfl
theorem p6_16_12 : pj (regOf Try.f6 16) 12 = some (some 87, Op.call { callee := Callee.value (Operand.func 20), args := #[Operand.tmp 86, Operand.const (Value.float FloatKind.f64 4607182418800017408)], argTypes := #[34, 22] }, 23, some (10, true)) := by kernel_rfl
theorem cl20 : callable Try.f20 = true := by kernel_rfl
theorem p6_16_13 : pj (regOf Try.f6 16) 13 = some (some 88, Op.binOp BinOp.eql 23 (Operand.tmp 87) (Operand.const (Value.int IntKind.i64 13)) 23, 4, some (10, true)) := by kernel_rfl
theorem p6_16_14 : pj (regOf Try.f6 16) 14 = some (some 89, Op.pick (Operand.tmp 85) (Operand.tmp 88) (Operand.const (Value.bool false)), 4, none) := by kernel_rfl
theorem p6_16_15 : pj (regOf Try.f6 16) 15 = some (some 90, Op.move (Operand.tmp 89), 4, none) := by kernel_rfl
theorem p6_16_16 : pj (regOf Try.f6 16) 16 = some (some 91, Op.move (Operand.tmp 9), 34, some (15, true)) := by kernel_rfl
theorem g6_16_15 : dstOf (regOf Try.f6 16) 15 = some 90 := by kernel_rfl
theorem p6_16_17 : pj (regOf Try.f6 16) 17 = some (some 92, Op.call { callee := Callee.value (Operand.func 24), args := #[Operand.tmp 91], argTypes := #[34] }, 3, some (15, true)) := by kernel_rfl
theorem cl24 : callable Try.f24 = true := by kernel_rfl
theorem p6_16_18 : pj (regOf Try.f6 16) 18 = some (some 93, Op.binOp BinOp.eql 3 (Operand.tmp 92) (Operand.const (Value.int IntKind.i64 65535)) 3, 4, some (15, true)) := by kernel_rfl
theorem p6_16_19 : pj (regOf Try.f6 16) 19 = some (some 94, Op.pick (Operand.tmp 90) (Operand.tmp 93) (Operand.const (Value.bool false)), 4, none) := by kernel_rfl
theorem p6_16_20 : pj (regOf Try.f6 16) 20 = some (some 95, Op.move (Operand.tmp 94), 4, none) := by kernel_rfl
theorem p6_16_21 : pj (regOf Try.f6 16) 21 = some (some 96, Op.move (Operand.tmp 9), 34, some (20, true)) := by kernel_rfl
theorem g6_16_20 : dstOf (regOf Try.f6 16) 20 = some 95 := by kernel_rfl
theorem p6_16_22 : pj (regOf Try.f6 16) 22 = some (some 97, Op.call { callee := Callee.value (Operand.func 23), args := #[Operand.tmp 96], argTypes := #[34] }, 3, some (20, true)) := by kernel_rfl
theorem cl23 : callable Try.f23 = true := by kernel_rfl
theorem p6_16_23 : pj (regOf Try.f6 16) 23 = some (some 98, Op.binOp BinOp.eql 3 (Operand.tmp 97) (Operand.const (Value.int IntKind.i64 0)) 3, 4, some (20, true)) := by kernel_rfl
theorem p6_16_24 : pj (regOf Try.f6 16) 24 = some (some 99, Op.pick (Operand.tmp 95) (Operand.tmp 98) (Operand.const (Value.bool false)), 4, none) := by kernel_rfl
theorem p6_16_25 : pj (regOf Try.f6 16) 25 = some (some 100, Op.move (Operand.tmp 99), 4, none) := by kernel_rfl
theorem p6_16_26 : pj (regOf Try.f6 16) 26 = some (some 101, Op.move (Operand.tmp 9), 34, some (25, true)) := by kernel_rfl
theorem g6_16_25 : dstOf (regOf Try.f6 16) 25 = some 100 := by kernel_rfl
theorem p6_16_27 : pj (regOf Try.f6 16) 27 = some (some 102, Op.call { callee := Callee.value (Operand.func 21), args := #[Operand.tmp 101], argTypes := #[34] }, 34, some (25, true)) := by kernel_rfl
theorem cl21 : callable Try.f21 = true := by kernel_rfl
theorem p6_16_28 : pj (regOf Try.f6 16) 28 = some (some 103, Op.binOp BinOp.eql 34 (Operand.tmp 102) (Operand.const (Value.pointer none)) 34, 4, some (25, true)) := by kernel_rfl
theorem p6_16_29 : pj (regOf Try.f6 16) 29 = some (some 104, Op.pick (Operand.tmp 100) (Operand.tmp 103) (Operand.const (Value.bool false)), 4, none) := by kernel_rfl
theorem p6_16_30 : pj (regOf Try.f6 16) 30 = some (some 2, Op.assign (Operand.tmp 104), 4, none) := by kernel_rfl
set_option maxHeartbeats 4000000 in
theorem walk (a0 : Option Addr) (cap0 : Nat) (z0 : List Int) (w : World) (w0 : Kd.C (Kd.int .i64) w a0 z0.length z0) (m0 : z0.length ≤ cap0) (o0 : (z0.length ≤ maxLen ∧ ∀ x0 ∈ z0, (Lit.int .i64 x0).wf = true)) (y0 : z0.length * Try.prog.bytesOf 3 ≤ 140737488351232) : Calls Try.prog 6 #[.slice a0 z0.length cap0] w fun e w' => e = .returned (.bool true) ∧ Below w.heap.size w w' := by
  have K_0 := Kp.refl w (fun _ => False)
  have F_z : ∀ W', Kp w W' (fun _ => False) → Kd.C (Kd.int .i64) W' a0 z0.length z0 := fun W' hk => Kd.C_below w0 (hk.to (Nat.le_refl _) (fun _ h => h.elim))
  refine enter (args := [Value.slice a0 z0.length cap0]) (n := 105) Try.func6 body6 rfl rfl rfl ?_
  intro a hE
  refine c_reg R6_0_l ?_
  refine p_cons (s_still p6_0_0 hE wn_none rfl (st_assign rfl) ?_)
  clear hE a; intro a hE
  refine p_nil ?_
  refine x_norm ?_
  refine c_reg R6_1_l ?_
  refine p_cons (s_alloc p6_1_0 hE wn_none rfl tZ38 ?_)
  clear hE a; intro g1 w2 z3 B_g1 hk a hE
  replace B_g1 : w2.heap[g1]? = some (.cells #[Value.float .f64 0, Value.bool false, Value.int .i64 0] 38 (0, 0)) := B_g1
  have z_0_g1 := Nat.le_trans K_0.kept.1 z3
  replace K_0 := K_0.then_ hk (fun _ h => h.elim)
  clear hk
  refine p_nil ?_
  refine x_norm ?_
  refine c_reg R6_2_l ?_
  refine p_cons (s_still p6_2_0 hE wn_none rfl (st_assign rfl) ?_)
  clear hE a; intro a hE
  refine p_nil ?_
  refine x_norm ?_
  refine wp_seq ?_
  refine c_reg R6_3_l ?_
  refine p_cons (s_still p6_3_0 hE wn_none rfl (st_assign rfl) ?_)
  clear hE a; intro a hE
  refine p_nil ?_
  refine x_norm ?_
  refine wp_block ?_
  refine c_loop (α := Nat) (fun k a W => ∃ (m : Nat), ∃ (is : Bool), ∃ (s : Int), ∃ (was : Nat), En 105 a [(0, Value.slice a0 z0.length cap0), (3, Value.pointer (some ⟨g1, 0, none⟩)), (5, Value.int .i64 (k : Int)), (4, Value.float .f64 was)] ∧ k ≤ z0.length ∧ (((k = 0 ∧ is = false ∧ was = 0) ∨ (0 < k ∧ is = true ∧ was = m ∧ 4607182418800017408 ≤ m ∧ m ≤ 4625196817309499392))) ∧ (0 ≤ s ∧ s ≤ 1099511627776) ∧ W.heap[g1]? = some (.cells #[Value.float .f64 m, Value.bool is, Value.int .i64 s] 38 (0, 0)) ∧ Kp w W (fun _ => False)) (fun k => z0.length - k) (0) ?_ ?_
  ·
    exact ⟨0, false, 0, 0, En.sub hE ⟨rfl, rfl, rfl, rfl, trivial⟩, Nat.zero_le _, (.inl ⟨rfl, rfl, rfl⟩), ⟨by decide, by decide⟩, B_g1, K_0⟩
  ·
    clear hE a
    rintro k a w4 ⟨m, is, s, was, hE, hk9, hw, hs, B_g1, K_0⟩
    refine wp_seq ?_
    rcases Decidable.em ((k : Int) < (z0.length : Int)) with hK1 | hK1
    ·
      rcases Decidable.em ((k : Int) < 60) with hK2 | hK2
      ·
        refine c_reg R6_4_l ?_
        refine p_cons (s_still p6_4_0 hE wn_none rfl (st_move rfl) ?_)
        clear hE a; intro a hE
        refine p_cons (s_still p6_4_1 hE wn_none rfl (st_move rfl) ?_)
        clear hE a; intro a hE
        refine p_cons (s_still p6_4_2 hE wn_none rfl (st_len Try.underlying52 rfl) ?_)
        clear hE a; intro a hE
        refine p_cons (s_still p6_4_3 hE wn_none rfl (st_lss (b := true) rfl rfl (decide_eq_true hK1)) ?_)
        clear hE a; intro a hE
        refine p_cons (s_still p6_4_4 hE wn_none rfl (st_move rfl) ?_)
        clear hE a; intro a hE
        refine p_cons (s_still p6_4_5 hE (wn_some g6_4_4 rfl rfl) rfl (st_move rfl) ?_)
        clear hE a; intro a hE
        refine p_cons (s_still p6_4_6 hE (wn_some g6_4_4 rfl rfl) rfl (st_lss (b := true) rfl rfl (decide_eq_true hK2)) ?_)
        clear hE a; intro a hE
        refine p_cons (s_still p6_4_7 hE wn_none rfl (st_pick rfl rfl) ?_)
        clear hE a; intro a hE
        refine p_nil ?_
        refine x_norm ?_
        refine c_cond (t := true) hE rfl ?_
        refine wp_skip ?_
        refine x_norm ?_
        refine wp_seq ?_
        refine wp_block ?_
        obtain ⟨n, hn⟩ : ∃ n : Nat, (n : Int) = 1 + rd z0 (k : Int) % 18446744073709551616 % 16 := ⟨(1 + rd z0 (k : Int) % 18446744073709551616 % 16).toNat, by omega⟩
        have hn1 : 1 ≤ n := by omega
        have hn2 : n ≤ 16 := by omega
        have hf16 := fl_16 hn1 hn2
        have hflo := fl_ok hn1 (show n ≤ 1000000 by omega)
        rcases Decidable.em (k = 0) with hZ | hZ
        ·
          obtain ⟨rfl, hwas⟩ : is = false ∧ True := ⟨(hw.resolve_right (fun h => by omega)).2.1, trivial⟩
          have eM := moveF_no m n
          have b1 : 4607182418800017408 ≤ moveF false m n := by rw [eM]; exact hflo.1
          have b2 : moveF false m n ≤ 4625196817309499392 := by rw [eM]; exact hf16
          refine c_reg R6_6_l ?_
          refine p_cons (s_still p6_6_0 hE wn_none rfl (st_move rfl) ?_)
          clear hE a; intro a hE
          refine p_cons (s_still p6_6_1 hE wn_none rfl (st_move rfl) ?_)
          clear hE a; intro a hE
          refine p_cons (s_still p6_6_2 hE wn_none rfl (st_indexAddrC (i := k) Try.underlying52 tS3 (F_z _ K_0) rfl rfl (by omega)) ?_)
          clear hE a; intro a hE
          refine p_cons (s_still (v := Value.int .i64 (rd z0 (k : Int))) p6_6_3 hE wn_none rfl (st_loadC (i := k) tA3 (F_z _ K_0) (by omega) rfl) ?_)
          clear hE a; intro a hE
          refine p_cons (s_still p6_6_4 hE wn_none rfl (st_conv (z := ((rd z0 (k : Int)) % 18446744073709551616)) (by kernel_rfl) Try.underlying44 rfl (IntKind.wrap_u64 _)) ?_)
          clear hE a; intro a hE
          refine p_cons (s_still p6_6_5 hE wn_none rfl (st_rem (z := ((rd z0 (k : Int)) % 18446744073709551616) % 16) rfl rfl (by decide) (Int.tmod_eq_emod_of_nonneg (by omega))) ?_)
          clear hE a; intro a hE
          refine p_cons (s_still p6_6_6 hE wn_none rfl (st_conv (z := (((rd z0 (k : Int)) % 18446744073709551616) % 16)) (by kernel_rfl) Try.underlying3 rfl (wr_i64 _ (by omega) (by omega))) ?_)
          clear hE a; intro a hE
          refine p_cons (s_still p6_6_7 hE wn_none rfl (st_add (z := (n : Int)) rfl rfl (by rw [hn]; exact wr_i64 _ (by omega) (by omega))) ?_)
          clear hE a; intro a hE
          refine p_cons (s_still p6_6_8 hE wn_none rfl (st_assign rfl) ?_)
          clear hE a; intro a hE
          refine p_nil ?_
          refine x_norm ?_
          refine wp_seq ?_
          refine c_reg R6_7_l ?_
          refine p_cons (s_still p6_7_0 hE wn_none rfl (st_move rfl) ?_)
          clear hE a; intro a hE
          refine p_cons (s_call (xs := [Operand.tmp 3, Operand.tmp 30]) (args := [Value.pointer (some ⟨g1, 0, none⟩), Value.int .i64 (n : Int)]) p6_7_1 hE wn_none rfl rfl Try.func17 cl17 (Sample_ok g1 m n false s (fun h => by cases h) hn1 hn2 hs _ B_g1) ?_)
          rintro e w5 ⟨rfl, B_g1', hk⟩
          replace K_0 := K_0.then_ hk (fun k h => by rw [show k = g1 from h]; exact Or.inr z_0_g1)
          replace B_g1 : w5.heap[g1]? = some (.cells #[Value.float .f64 (moveF false m n), Value.bool true, Value.int .i64 (senF s (n : Int))] 38 (0, 0)) := B_g1'
          clear B_g1'
          refine ⟨_, rfl, ?_⟩
          clear hE a; intro a hE
          refine p_cons (s_still p6_7_2 hE wn_none rfl (st_neq (b := false) rfl rfl (by decide)) ?_)
          clear hE a; intro a hE
          refine p_nil ?_
          refine x_norm ?_
          refine c_cond (t := false) hE rfl ?_
          refine wp_skip ?_
          refine x_norm ?_
          refine c_reg R6_9_l ?_
          refine p_cons (s_call (xs := [Operand.tmp 3]) (args := [Value.pointer (some ⟨g1, 0, none⟩)]) p6_9_0 hE wn_none rfl rfl Try.func22 cl22 (Mean_true g1 (moveF false m n) (senF s (n : Int)) _ B_g1) ?_)
          rintro e w6 ⟨rfl, hk⟩
          replace B_g1 := kp_blk B_g1 hk (fun h => h)
          replace K_0 := K_0.then_ hk (fun _ h => h.elim)
          refine ⟨_, rfl, ?_⟩
          clear hE a; intro a hE
          refine p_cons (s_still p6_9_1 hE wn_none rfl (st_move rfl) ?_)
          clear hE a; intro a hE
          refine p_cons (s_still p6_9_2 hE wn_none rfl (st_extract rfl rfl) ?_)
          clear hE a; intro a hE
          refine p_cons (s_still p6_9_3 hE wn_none rfl (st_extract rfl rfl) ?_)
          clear hE a; intro a hE
          refine p_cons (s_still p6_9_4 hE wn_none rfl (st_assign rfl) ?_)
          clear hE a; intro a hE
          refine p_cons (s_still p6_9_5 hE wn_none rfl (st_assign rfl) ?_)
          clear hE a; intro a hE
          refine p_nil ?_
          refine x_norm ?_
          refine wp_seq ?_
          refine c_reg R6_10_l ?_
          refine p_cons (s_still p6_10_0 hE wn_none rfl (st_move rfl) ?_)
          clear hE a; intro a hE
          refine p_cons (s_still p6_10_1 hE wn_none rfl (st_neq (b := false) rfl rfl (by decide)) ?_)
          clear hE a; intro a hE
          refine p_cons (s_still p6_10_2 hE wn_none rfl (st_move rfl) ?_)
          clear hE a; intro a hE
          refine p_cons (s_still p6_10_3 hE (wn_some g6_10_2 rfl rfl) rfl (st_move rfl) ?_)
          clear hE a; intro a hE
          refine p_cons (s_still p6_10_4 hE (wn_some g6_10_2 rfl rfl) rfl (st_flss (b := false) rfl rfl (by rw [lt_right (show right _ from ⟨by omega, by omega⟩) (show right _ from ⟨by decide, by decide⟩)]; exact decide_eq_false (by omega))) ?_)
          clear hE a; intro a hE
          refine p_cons (s_still p6_10_5 hE wn_none rfl (st_pick rfl rfl) ?_)
          clear hE a; intro a hE
          refine p_cons (s_still p6_10_6 hE wn_none rfl (st_move rfl) ?_)
          clear hE a; intro a hE
          refine p_cons (s_still p6_10_7 hE (wn_some g6_10_6 rfl rfl) rfl (st_move rfl) ?_)
          clear hE a; intro a hE
          refine p_cons (s_still p6_10_8 hE (wn_some g6_10_6 rfl rfl) rfl (st_fgtr (b := false) rfl rfl (by rw [gt_right (show right _ from ⟨by omega, by omega⟩) (show right _ from ⟨by decide, by decide⟩)]; exact decide_eq_false (by omega))) ?_)
          clear hE a; intro a hE
          refine p_cons (s_still p6_10_9 hE wn_none rfl (st_pick rfl rfl) ?_)
          clear hE a; intro a hE
          refine p_cons (s_still p6_10_10 hE wn_none rfl (st_move rfl) ?_)
          clear hE a; intro a hE
          refine p_cons (s_still p6_10_11 hE (wn_some g6_10_10 rfl rfl) rfl (st_move rfl) ?_)
          clear hE a; intro a hE
          refine p_cons (s_still p6_10_12 hE (wn_some g6_10_10 rfl rfl) rfl (st_gtr (b := false) rfl rfl (decide_eq_false (by omega))) ?_)
          clear hE a; intro a hE
          refine p_cons (s_still p6_10_13 hE (wn_some g6_10_10 rfl rfl) rfl (st_move rfl) ?_)
          clear hE a; intro a hE
          refine p_cons (s_skip p6_10_14 hE (wn_some g6_10_13 rfl rfl) rfl ?_)
          clear hE a; intro a hE
          refine p_cons (s_skip p6_10_15 hE (wn_some g6_10_13 rfl rfl) rfl ?_)
          clear hE a; intro a hE
          refine p_cons (s_skip p6_10_16 hE (wn_some g6_10_13 rfl rfl) rfl ?_)
          clear hE a; intro a hE
          refine p_cons (s_skip p6_10_17 hE (wn_some g6_10_13 rfl rfl) rfl ?_)
          clear hE a; intro a hE
          refine p_cons (s_skip p6_10_18 hE (wn_some g6_10_13 rfl rfl) rfl ?_)
          clear hE a; intro a hE
          refine p_cons (s_skip p6_10_19 hE (wn_some g6_10_13 rfl rfl) rfl ?_)
          clear hE a; intro a hE
          refine p_cons (s_skip p6_10_20 hE (wn_some g6_10_13 rfl rfl) rfl ?_)
          clear hE a; intro a hE
          refine p_cons (s_skip p6_10_21 hE (wn_undef g6_10_20 rfl) rfl ?_)
          clear hE a; intro a hE
          refine p_cons (s_skip p6_10_22 hE (wn_undef g6_10_20 rfl) rfl ?_)
          clear hE a; intro a hE
          refine p_cons (s_skip p6_10_23 hE (wn_undef g6_10_20 rfl) rfl ?_)
          clear hE a; intro a hE
          refine p_cons (s_skip p6_10_24 hE (wn_undef g6_10_20 rfl) rfl ?_)
          clear hE a; intro a hE
          refine p_cons (s_skip p6_10_25 hE (wn_undef g6_10_20 rfl) rfl ?_)
          clear hE a; intro a hE
          refine p_cons (s_skip p6_10_26 hE (wn_undef g6_10_20 rfl) rfl ?_)
          clear hE a; intro a hE
          refine p_cons (s_skip p6_10_27 hE (wn_some g6_10_13 rfl rfl) rfl ?_)
          clear hE a; intro a hE
          refine p_cons (s_still p6_10_28 hE (wn_some g6_10_10 rfl rfl) rfl (st_pick rfl rfl) ?_)
          clear hE a; intro a hE
          refine p_cons (s_still p6_10_29 hE wn_none rfl (st_pick rfl rfl) ?_)
          clear hE a; intro a hE
          refine p_nil ?_
          refine x_norm ?_
          refine c_cond (t := false) hE rfl ?_
          refine wp_skip ?_
          refine x_norm ?_
          refine c_regL R6_12_l ?_
          refine p_cons (s_still p6_12_0 hE wn_none rfl (st_move rfl) ?_)
          clear hE a; intro a hE
          refine p_cons (s_still p6_12_1 hE wn_none rfl (st_assign rfl) ?_)
          clear hE a; intro a hE
          refine p_nil ?_
          refine x_normB ?_
          refine x_norm ?_
          refine c_regL R6_5_l ?_
          refine p_cons (s_still p6_5_0 hE wn_none rfl (st_move rfl) ?_)
          clear hE a; intro a hE
          refine p_cons (s_still p6_5_1 hE wn_none rfl (st_add (z := (k : Int) + 1) rfl rfl (wr_i64 _ (by omega) (by omega))) ?_)
          clear hE a; intro a hE
          refine p_cons (s_still p6_5_2 hE wn_none rfl (st_assign rfl) ?_)
          clear hE a; intro a hE
          refine p_nil ?_
          refine x_norm ?_
          have hs9 : 0 ≤ senF s (n : Int) ∧ senF s (n : Int) ≤ 1099511627776 := by unfold senF; split <;> omega
          exact ⟨k + 1, by omega, (moveF false m n), true, (senF s (n : Int)), (moveF false m n), En.sub hE ⟨rfl, rfl, rfl, rfl, trivial⟩, by omega, (.inr ⟨by omega, rfl, rfl, b1, b2⟩), hs9, B_g1, K_0⟩
        ·
          obtain ⟨_, rfl, hwm, hm1, hm2⟩ := hw.resolve_left (fun h => hZ h.1)
          obtain rfl := hwm.symm
          have hmb := move_between hm1 hm2 hn1 hn2
          have bb : (m ≤ fl n ∧ m ≤ moveF true m n ∧ moveF true m n ≤ fl n) ∨ (fl n < m ∧ fl n ≤ moveF true m n ∧ moveF true m n ≤ m) := by
            rcases Nat.lt_or_ge (fl n) m with h | h
            · exact .inr ⟨h, hmb.2 (by omega)⟩
            · exact .inl ⟨h, hmb.1 h⟩
          have b1 : 4607182418800017408 ≤ moveF true m n := by omega
          have b2 : moveF true m n ≤ 4625196817309499392 := by omega
          refine c_reg R6_6_l ?_
          refine p_cons (s_still p6_6_0 hE wn_none rfl (st_move rfl) ?_)
          clear hE a; intro a hE
          refine p_cons (s_still p6_6_1 hE wn_none rfl (st_move rfl) ?_)
          clear hE a; intro a hE
          refine p_cons (s_still p6_6_2 hE wn_none rfl (st_indexAddrC (i := k) Try.underlying52 tS3 (F_z _ K_0) rfl rfl (by omega)) ?_)
          clear hE a; intro a hE
          refine p_cons (s_still (v := Value.int .i64 (rd z0 (k : Int))) p6_6_3 hE wn_none rfl (st_loadC (i := k) tA3 (F_z _ K_0) (by omega) rfl) ?_)
          clear hE a; intro a hE
          refine p_cons (s_still p6_6_4 hE wn_none rfl (st_conv (z := ((rd z0 (k : Int)) % 18446744073709551616)) (by kernel_rfl) Try.underlying44 rfl (IntKind.wrap_u64 _)) ?_)
          clear hE a; intro a hE
          refine p_cons (s_still p6_6_5 hE wn_none rfl (st_rem (z := ((rd z0 (k : Int)) % 18446744073709551616) % 16) rfl rfl (by decide) (Int.tmod_eq_emod_of_nonneg (by omega))) ?_)
          clear hE a; intro a hE
          refine p_cons (s_still p6_6_6 hE wn_none rfl (st_conv (z := (((rd z0 (k : Int)) % 18446744073709551616) % 16)) (by kernel_rfl) Try.underlying3 rfl (wr_i64 _ (by omega) (by omega))) ?_)
          clear hE a; intro a hE
          refine p_cons (s_still p6_6_7 hE wn_none rfl (st_add (z := (n : Int)) rfl rfl (by rw [hn]; exact wr_i64 _ (by omega) (by omega))) ?_)
          clear hE a; intro a hE
          refine p_cons (s_still p6_6_8 hE wn_none rfl (st_assign rfl) ?_)
          clear hE a; intro a hE
          refine p_nil ?_
          refine x_norm ?_
          refine wp_seq ?_
          refine c_reg R6_7_l ?_
          refine p_cons (s_still p6_7_0 hE wn_none rfl (st_move rfl) ?_)
          clear hE a; intro a hE
          refine p_cons (s_call (xs := [Operand.tmp 3, Operand.tmp 30]) (args := [Value.pointer (some ⟨g1, 0, none⟩), Value.int .i64 (n : Int)]) p6_7_1 hE wn_none rfl rfl Try.func17 cl17 (Sample_ok g1 m n true s (fun _ => ⟨hm1, by omega⟩) hn1 hn2 hs _ B_g1) ?_)
          rintro e w7 ⟨rfl, B_g1', hk⟩
          replace K_0 := K_0.then_ hk (fun k h => by rw [show k = g1 from h]; exact Or.inr z_0_g1)
          replace B_g1 : w7.heap[g1]? = some (.cells #[Value.float .f64 (moveF true m n), Value.bool true, Value.int .i64 (senF s (n : Int))] 38 (0, 0)) := B_g1'
          clear B_g1'
          refine ⟨_, rfl, ?_⟩
          clear hE a; intro a hE
          refine p_cons (s_still p6_7_2 hE wn_none rfl (st_neq (b := false) rfl rfl (by decide)) ?_)
          clear hE a; intro a hE
          refine p_nil ?_
          refine x_norm ?_
          refine c_cond (t := false) hE rfl ?_
          refine wp_skip ?_
          refine x_norm ?_
          refine c_reg R6_9_l ?_
          refine p_cons (s_call (xs := [Operand.tmp 3]) (args := [Value.pointer (some ⟨g1, 0, none⟩)]) p6_9_0 hE wn_none rfl rfl Try.func22 cl22 (Mean_true g1 (moveF true m n) (senF s (n : Int)) _ B_g1) ?_)
          rintro e w8 ⟨rfl, hk⟩
          replace B_g1 := kp_blk B_g1 hk (fun h => h)
          replace K_0 := K_0.then_ hk (fun _ h => h.elim)
          refine ⟨_, rfl, ?_⟩
          clear hE a; intro a hE
          refine p_cons (s_still p6_9_1 hE wn_none rfl (st_move rfl) ?_)
          clear hE a; intro a hE
          refine p_cons (s_still p6_9_2 hE wn_none rfl (st_extract rfl rfl) ?_)
          clear hE a; intro a hE
          refine p_cons (s_still p6_9_3 hE wn_none rfl (st_extract rfl rfl) ?_)
          clear hE a; intro a hE
          refine p_cons (s_still p6_9_4 hE wn_none rfl (st_assign rfl) ?_)
          clear hE a; intro a hE
          refine p_cons (s_still p6_9_5 hE wn_none rfl (st_assign rfl) ?_)
          clear hE a; intro a hE
          refine p_nil ?_
          refine x_norm ?_
          refine wp_seq ?_
          refine c_reg R6_10_l ?_
          refine p_cons (s_still p6_10_0 hE wn_none rfl (st_move rfl) ?_)
          clear hE a; intro a hE
          refine p_cons (s_still p6_10_1 hE wn_none rfl (st_neq (b := false) rfl rfl (by decide)) ?_)
          clear hE a; intro a hE
          refine p_cons (s_still p6_10_2 hE wn_none rfl (st_move rfl) ?_)
          clear hE a; intro a hE
          refine p_cons (s_still p6_10_3 hE (wn_some g6_10_2 rfl rfl) rfl (st_move rfl) ?_)
          clear hE a; intro a hE
          refine p_cons (s_still p6_10_4 hE (wn_some g6_10_2 rfl rfl) rfl (st_flss (b := false) rfl rfl (by rw [lt_right (show right _ from ⟨by omega, by omega⟩) (show right _ from ⟨by decide, by decide⟩)]; exact decide_eq_false (by omega))) ?_)
          clear hE a; intro a hE
          refine p_cons (s_still p6_10_5 hE wn_none rfl (st_pick rfl rfl) ?_)
          clear hE a; intro a hE
          refine p_cons (s_still p6_10_6 hE wn_none rfl (st_move rfl) ?_)
          clear hE a; intro a hE
          refine p_cons (s_still p6_10_7 hE (wn_some g6_10_6 rfl rfl) rfl (st_move rfl) ?_)
          clear hE a; intro a hE
          refine p_cons (s_still p6_10_8 hE (wn_some g6_10_6 rfl rfl) rfl (st_fgtr (b := false) rfl rfl (by rw [gt_right (show right _ from ⟨by omega, by omega⟩) (show right _ from ⟨by decide, by decide⟩)]; exact decide_eq_false (by omega))) ?_)
          clear hE a; intro a hE
          refine p_cons (s_still p6_10_9 hE wn_none rfl (st_pick rfl rfl) ?_)
          clear hE a; intro a hE
          refine p_cons (s_still p6_10_10 hE wn_none rfl (st_move rfl) ?_)
          clear hE a; intro a hE
          refine p_cons (s_still p6_10_11 hE (wn_some g6_10_10 rfl rfl) rfl (st_move rfl) ?_)
          clear hE a; intro a hE
          refine p_cons (s_still p6_10_12 hE (wn_some g6_10_10 rfl rfl) rfl (st_gtr (b := true) rfl rfl (decide_eq_true (by omega))) ?_)
          clear hE a; intro a hE
          refine p_cons (s_still p6_10_13 hE (wn_some g6_10_10 rfl rfl) rfl (st_move rfl) ?_)
          clear hE a; intro a hE
          refine p_cons (s_still p6_10_14 hE (wn_some g6_10_13 rfl rfl) rfl (st_move rfl) ?_)
          clear hE a; intro a hE
          refine p_cons (s_still p6_10_15 hE (wn_some g6_10_13 rfl rfl) rfl (st_move rfl) ?_)
          clear hE a; intro a hE
          refine p_cons (s_still p6_10_16 hE (wn_some g6_10_13 rfl rfl) rfl (st_move rfl) ?_)
          clear hE a; intro a hE
          refine p_cons (s_still p6_10_17 hE (wn_some g6_10_13 rfl rfl) rfl (st_i2f (z := (fl n)) (by kernel_rfl) Try.underlying22 rfl (i2f_nat _)) ?_)
          clear hE a; intro a hE
          refine p_cons (s_call (xs := [Operand.tmp 52, Operand.tmp 54]) (args := [Value.float .f64 m, Value.float .f64 (fl n)]) p6_10_18 hE (wn_some g6_10_13 rfl rfl) rfl rfl Try.func26 cl26 (min_any m (fl n) ⟨by omega, by omega⟩ ⟨by omega, by omega⟩ _) ?_)
          rintro e w9 ⟨rfl, hk⟩
          replace B_g1 := kp_blk B_g1 hk (fun h => h)
          replace K_0 := K_0.then_ hk (fun _ h => h.elim)
          refine ⟨_, rfl, ?_⟩
          clear hE a; intro a hE
          refine p_cons (s_still p6_10_19 hE (wn_some g6_10_13 rfl rfl) rfl (st_flss (b := false) rfl rfl (by rw [lt_right (show right _ from ⟨by omega, by omega⟩) (show right _ from ⟨by split <;> omega, by split <;> omega⟩)]; exact decide_eq_false (by split <;> omega))) ?_)
          clear hE a; intro a hE
          refine p_cons (s_still p6_10_20 hE (wn_some g6_10_13 rfl rfl) rfl (st_move rfl) ?_)
          clear hE a; intro a hE
          refine p_cons (s_still p6_10_21 hE (wn_some g6_10_20 rfl rfl) rfl (st_move rfl) ?_)
          clear hE a; intro a hE
          refine p_cons (s_still p6_10_22 hE (wn_some g6_10_20 rfl rfl) rfl (st_move rfl) ?_)
          clear hE a; intro a hE
          refine p_cons (s_still p6_10_23 hE (wn_some g6_10_20 rfl rfl) rfl (st_move rfl) ?_)
          clear hE a; intro a hE
          refine p_cons (s_still p6_10_24 hE (wn_some g6_10_20 rfl rfl) rfl (st_i2f (z := (fl n)) (by kernel_rfl) Try.underlying22 rfl (i2f_nat _)) ?_)
          clear hE a; intro a hE
          refine p_cons (s_call (xs := [Operand.tmp 59, Operand.tmp 61]) (args := [Value.float .f64 m, Value.float .f64 (fl n)]) p6_10_25 hE (wn_some g6_10_20 rfl rfl) rfl rfl Try.func27 cl27 (max_any m (fl n) ⟨by omega, by omega⟩ ⟨by omega, by omega⟩ _) ?_)
          rintro e w10 ⟨rfl, hk⟩
          replace B_g1 := kp_blk B_g1 hk (fun h => h)
          replace K_0 := K_0.then_ hk (fun _ h => h.elim)
          refine ⟨_, rfl, ?_⟩
          clear hE a; intro a hE
          refine p_cons (s_still p6_10_26 hE (wn_some g6_10_20 rfl rfl) rfl (st_fgtr (b := false) rfl rfl (by rw [gt_right (show right _ from ⟨by omega, by omega⟩) (show right _ from ⟨by split <;> omega, by split <;> omega⟩)]; exact decide_eq_false (by split <;> omega))) ?_)
          clear hE a; intro a hE
          refine p_cons (s_still p6_10_27 hE (wn_some g6_10_13 rfl rfl) rfl (st_pick rfl rfl) ?_)
          clear hE a; intro a hE
          refine p_cons (s_still p6_10_28 hE (wn_some g6_10_10 rfl rfl) rfl (st_pick rfl rfl) ?_)
          clear hE a; intro a hE
          refine p_cons (s_still p6_10_29 hE wn_none rfl (st_pick rfl rfl) ?_)
          clear hE a; intro a hE
          refine p_nil ?_
          refine x_norm ?_
          refine c_cond (t := false) hE rfl ?_
          refine wp_skip ?_
          refine x_norm ?_
          refine c_regL R6_12_l ?_
          refine p_cons (s_still p6_12_0 hE wn_none rfl (st_move rfl) ?_)
          clear hE a; intro a hE
          refine p_cons (s_still p6_12_1 hE wn_none rfl (st_assign rfl) ?_)
          clear hE a; intro a hE
          refine p_nil ?_
          refine x_normB ?_
          refine x_norm ?_
          refine c_regL R6_5_l ?_
          refine p_cons (s_still p6_5_0 hE wn_none rfl (st_move rfl) ?_)
          clear hE a; intro a hE
          refine p_cons (s_still p6_5_1 hE wn_none rfl (st_add (z := (k : Int) + 1) rfl rfl (wr_i64 _ (by omega) (by omega))) ?_)
          clear hE a; intro a hE
          refine p_cons (s_still p6_5_2 hE wn_none rfl (st_assign rfl) ?_)
          clear hE a; intro a hE
          refine p_nil ?_
          refine x_norm ?_
          have hs9 : 0 ≤ senF s (n : Int) ∧ senF s (n : Int) ≤ 1099511627776 := by unfold senF; split <;> omega
          exact ⟨k + 1, by omega, (moveF true m n), true, (senF s (n : Int)), (moveF true m n), En.sub hE ⟨rfl, rfl, rfl, rfl, trivial⟩, by omega, (.inr ⟨by omega, rfl, rfl, b1, b2⟩), hs9, B_g1, K_0⟩
      ·
        refine c_reg R6_4_l ?_
        refine p_cons (s_still p6_4_0 hE wn_none rfl (st_move rfl) ?_)
        clear hE a; intro a hE
        refine p_cons (s_still p6_4_1 hE wn_none rfl (st_move rfl) ?_)
        clear hE a; intro a hE
        refine p_cons (s_still p6_4_2 hE wn_none rfl (st_len Try.underlying52 rfl) ?_)
        clear hE a; intro a hE
        refine p_cons (s_still p6_4_3 hE wn_none rfl (st_lss (b := true) rfl rfl (decide_eq_true hK1)) ?_)
        clear hE a; intro a hE
        refine p_cons (s_still p6_4_4 hE wn_none rfl (st_move rfl) ?_)
        clear hE a; intro a hE
        refine p_cons (s_still p6_4_5 hE (wn_some g6_4_4 rfl rfl) rfl (st_move rfl) ?_)
        clear hE a; intro a hE
        refine p_cons (s_still p6_4_6 hE (wn_some g6_4_4 rfl rfl) rfl (st_lss (b := false) rfl rfl (decide_eq_false hK2)) ?_)
        clear hE a; intro a hE
        refine p_cons (s_still p6_4_7 hE wn_none rfl (st_pick rfl rfl) ?_)
        clear hE a; intro a hE
        refine p_nil ?_
        refine x_norm ?_
        refine c_cond (t := false) hE rfl ?_
        refine wp_exit ?_
        refine x_exit ?_
        refine x_exit ?_
        refine x_in ?_
        refine x_norm ?_
        refine c_reg R6_13_l ?_
        refine p_cons (s_still p6_13_0 hE wn_none rfl (st_assign rfl) ?_)
        clear hE a; intro a hE
        refine p_nil ?_
        refine x_norm ?_
        refine c_reg R6_14_l ?_
        refine p_cons (s_still p6_14_0 hE wn_none rfl (st_move rfl) ?_)
        clear hE a; intro a hE
        refine p_cons (s_call (xs := [Operand.tmp 68]) (args := [Value.pointer none]) p6_14_1 hE wn_none rfl rfl Try.func19 cl19 (nil_fail  _) ?_)
        rintro e w11 ⟨rfl, hk⟩
        replace B_g1 := kp_blk B_g1 hk (fun h => h)
        replace K_0 := K_0.then_ hk (fun _ h => h.elim)
        refine ⟨_, rfl, ?_⟩
        clear hE a; intro a hE
        refine p_nil ?_
        refine x_norm ?_
        refine c_reg R6_15_l ?_
        refine p_cons (s_still p6_15_0 hE wn_none rfl (st_move rfl) ?_)
        clear hE a; intro a hE
        refine p_cons (s_call (xs := [Operand.tmp 71]) (args := [Value.pointer none]) p6_15_1 hE wn_none rfl rfl Try.func22 cl22 (nil_mean  _) ?_)
        rintro e w12 ⟨rfl, hk⟩
        replace B_g1 := kp_blk B_g1 hk (fun h => h)
        replace K_0 := K_0.then_ hk (fun _ h => h.elim)
        refine ⟨_, rfl, ?_⟩
        clear hE a; intro a hE
        refine p_cons (s_still p6_15_2 hE wn_none rfl (st_move rfl) ?_)
        clear hE a; intro a hE
        refine p_cons (s_still p6_15_3 hE wn_none rfl (st_extract rfl rfl) ?_)
        clear hE a; intro a hE
        refine p_cons (s_still p6_15_4 hE wn_none rfl (st_extract rfl rfl) ?_)
        clear hE a; intro a hE
        refine p_cons (s_still p6_15_5 hE wn_none rfl (st_assign rfl) ?_)
        clear hE a; intro a hE
        refine p_cons (s_still p6_15_6 hE wn_none rfl (st_assign rfl) ?_)
        clear hE a; intro a hE
        refine p_nil ?_
        refine x_norm ?_
        refine c_reg R6_16_l ?_
        refine p_cons (s_call (xs := []) (args := []) p6_16_0 hE wn_none rfl rfl Try.func12 cl12 (known_any  _) ?_)
        rintro e w13 ⟨rfl, hk⟩
        replace B_g1 := kp_blk B_g1 hk (fun h => h)
        replace K_0 := K_0.then_ hk (fun _ h => h.elim)
        refine ⟨_, rfl, ?_⟩
        clear hE a; intro a hE
        refine p_cons (s_still p6_16_1 hE wn_none rfl (st_move rfl) ?_)
        clear hE a; intro a hE
        refine p_cons (s_still p6_16_2 hE (wn_some g6_16_1 rfl rfl) rfl (st_move rfl) ?_)
        clear hE a; intro a hE
        refine p_cons (s_still p6_16_3 hE (wn_some g6_16_1 rfl rfl) rfl (st_eql (b := true) rfl rfl (by decide)) ?_)
        clear hE a; intro a hE
        refine p_cons (s_still p6_16_4 hE wn_none rfl (st_pick rfl rfl) ?_)
        clear hE a; intro a hE
        refine p_cons (s_still p6_16_5 hE wn_none rfl (st_move rfl) ?_)
        clear hE a; intro a hE
        refine p_cons (s_still p6_16_6 hE (wn_some g6_16_5 rfl rfl) rfl (st_move rfl) ?_)
        clear hE a; intro a hE
        refine p_cons (s_call (xs := [Operand.tmp 81, Operand.const (Value.int IntKind.i64 1)]) (args := [Value.pointer none, Value.int .i64 1]) p6_16_7 hE (wn_some g6_16_5 rfl rfl) rfl rfl Try.func17 cl17 (nil_samp  _) ?_)
        rintro e w14 ⟨rfl, hk⟩
        replace B_g1 := kp_blk B_g1 hk (fun h => h)
        replace K_0 := K_0.then_ hk (fun _ h => h.elim)
        refine ⟨_, rfl, ?_⟩
        clear hE a; intro a hE
        refine p_cons (s_still p6_16_8 hE (wn_some g6_16_5 rfl rfl) rfl (st_eql (b := true) rfl rfl (by decide)) ?_)
        clear hE a; intro a hE
        refine p_cons (s_still p6_16_9 hE wn_none rfl (st_pick rfl rfl) ?_)
        clear hE a; intro a hE
        refine p_cons (s_still p6_16_10 hE wn_none rfl (st_move rfl) ?_)
        clear hE a; intro a hE
        refine p_cons (s_still p6_16_11 hE (wn_some g6_16_10 rfl rfl) rfl (st_move rfl) ?_)
        clear hE a; intro a hE
        refine p_cons (s_call (xs := [Operand.tmp 86, Operand.const (Value.float FloatKind.f64 4607182418800017408)]) (args := [Value.pointer none, Value.float .f64 4607182418800017408]) p6_16_12 hE (wn_some g6_16_10 rfl rfl) rfl rfl Try.func20 cl20 (nil_set  _) ?_)
        rintro e w15 ⟨rfl, hk⟩
        replace B_g1 := kp_blk B_g1 hk (fun h => h)
        replace K_0 := K_0.then_ hk (fun _ h => h.elim)
        refine ⟨_, rfl, ?_⟩
        clear hE a; intro a hE
        refine p_cons (s_still p6_16_13 hE (wn_some g6_16_10 rfl rfl) rfl (st_eql (b := true) rfl rfl (by decide)) ?_)
        clear hE a; intro a hE
        refine p_cons (s_still p6_16_14 hE wn_none rfl (st_pick rfl rfl) ?_)
        clear hE a; intro a hE
        refine p_cons (s_still p6_16_15 hE wn_none rfl (st_move rfl) ?_)
        clear hE a; intro a hE
        refine p_cons (s_still p6_16_16 hE (wn_some g6_16_15 rfl rfl) rfl (st_move rfl) ?_)
        clear hE a; intro a hE
        refine p_cons (s_call (xs := [Operand.tmp 91]) (args := [Value.pointer none]) p6_16_17 hE (wn_some g6_16_15 rfl rfl) rfl rfl Try.func24 cl24 (nil_cost  _) ?_)
        rintro e w16 ⟨rfl, hk⟩
        replace B_g1 := kp_blk B_g1 hk (fun h => h)
        replace K_0 := K_0.then_ hk (fun _ h => h.elim)
        refine ⟨_, rfl, ?_⟩
        clear hE a; intro a hE
        refine p_cons (s_still p6_16_18 hE (wn_some g6_16_15 rfl rfl) rfl (st_eql (b := true) rfl rfl (by decide)) ?_)
        clear hE a; intro a hE
        refine p_cons (s_still p6_16_19 hE wn_none rfl (st_pick rfl rfl) ?_)
        clear hE a; intro a hE
        refine p_cons (s_still p6_16_20 hE wn_none rfl (st_move rfl) ?_)
        clear hE a; intro a hE
        refine p_cons (s_still p6_16_21 hE (wn_some g6_16_20 rfl rfl) rfl (st_move rfl) ?_)
        clear hE a; intro a hE
        refine p_cons (s_call (xs := [Operand.tmp 96]) (args := [Value.pointer none]) p6_16_22 hE (wn_some g6_16_20 rfl rfl) rfl rfl Try.func23 cl23 (nil_sent  _) ?_)
        rintro e w17 ⟨rfl, hk⟩
        replace B_g1 := kp_blk B_g1 hk (fun h => h)
        replace K_0 := K_0.then_ hk (fun _ h => h.elim)
        refine ⟨_, rfl, ?_⟩
        clear hE a; intro a hE
        refine p_cons (s_still p6_16_23 hE (wn_some g6_16_20 rfl rfl) rfl (st_eql (b := true) rfl rfl (by decide)) ?_)
        clear hE a; intro a hE
        refine p_cons (s_still p6_16_24 hE wn_none rfl (st_pick rfl rfl) ?_)
        clear hE a; intro a hE
        refine p_cons (s_still p6_16_25 hE wn_none rfl (st_move rfl) ?_)
        clear hE a; intro a hE
        refine p_cons (s_still p6_16_26 hE (wn_some g6_16_25 rfl rfl) rfl (st_move rfl) ?_)
        clear hE a; intro a hE
        refine p_cons (s_call (xs := [Operand.tmp 101]) (args := [Value.pointer none]) p6_16_27 hE (wn_some g6_16_25 rfl rfl) rfl rfl Try.func21 cl21 (nil_copy  _) ?_)
        rintro e w18 ⟨rfl, hk⟩
        replace B_g1 := kp_blk B_g1 hk (fun h => h)
        replace K_0 := K_0.then_ hk (fun _ h => h.elim)
        refine ⟨_, rfl, ?_⟩
        clear hE a; intro a hE
        refine p_cons (s_still p6_16_28 hE (wn_some g6_16_25 rfl rfl) rfl (st_eqlP (b := true) tP34 rfl rfl rfl) ?_)
        clear hE a; intro a hE
        refine p_cons (s_still p6_16_29 hE wn_none rfl (st_pick rfl rfl) ?_)
        clear hE a; intro a hE
        refine p_cons (s_still p6_16_30 hE wn_none rfl (st_assign rfl) ?_)
        clear hE a; intro a hE
        refine p_nil ?_
        refine x_norm ?_
        refine wp_ret ?_
        refine ret_one (v := Value.bool true) rfl hE (.tmp rfl .nil) ?_
        exact ⟨rfl, K_0.to (Nat.le_refl _) (fun _ h => h.elim)⟩
    ·
      refine c_reg R6_4_l ?_
      refine p_cons (s_still p6_4_0 hE wn_none rfl (st_move rfl) ?_)
      clear hE a; intro a hE
      refine p_cons (s_still p6_4_1 hE wn_none rfl (st_move rfl) ?_)
      clear hE a; intro a hE
      refine p_cons (s_still p6_4_2 hE wn_none rfl (st_len Try.underlying52 rfl) ?_)
      clear hE a; intro a hE
      refine p_cons (s_still p6_4_3 hE wn_none rfl (st_lss (b := false) rfl rfl (decide_eq_false hK1)) ?_)
      clear hE a; intro a hE
      refine p_cons (s_still p6_4_4 hE wn_none rfl (st_move rfl) ?_)
      clear hE a; intro a hE
      refine p_cons (s_skip p6_4_5 hE (wn_some g6_4_4 rfl rfl) rfl ?_)
      clear hE a; intro a hE
      refine p_cons (s_skip p6_4_6 hE (wn_some g6_4_4 rfl rfl) rfl ?_)
      clear hE a; intro a hE
      refine p_cons (s_still p6_4_7 hE wn_none rfl (st_pick rfl rfl) ?_)
      clear hE a; intro a hE
      refine p_nil ?_
      refine x_norm ?_
      refine c_cond (t := false) hE rfl ?_
      refine wp_exit ?_
      refine x_exit ?_
      refine x_exit ?_
      refine x_in ?_
      refine x_norm ?_
      refine c_reg R6_13_l ?_
      refine p_cons (s_still p6_13_0 hE wn_none rfl (st_assign rfl) ?_)
      clear hE a; intro a hE
      refine p_nil ?_
      refine x_norm ?_
      refine c_reg R6_14_l ?_
      refine p_cons (s_still p6_14_0 hE wn_none rfl (st_move rfl) ?_)
      clear hE a; intro a hE
      refine p_cons (s_call (xs := [Operand.tmp 68]) (args := [Value.pointer none]) p6_14_1 hE wn_none rfl rfl Try.func19 cl19 (nil_fail  _) ?_)
      rintro e w19 ⟨rfl, hk⟩
      replace B_g1 := kp_blk B_g1 hk (fun h => h)
      replace K_0 := K_0.then_ hk (fun _ h => h.elim)
      refine ⟨_, rfl, ?_⟩
      clear hE a; intro a hE
      refine p_nil ?_
      refine x_norm ?_
      refine c_reg R6_15_l ?_
      refine p_cons (s_still p6_15_0 hE wn_none rfl (st_move rfl) ?_)
      clear hE a; intro a hE
      refine p_cons (s_call (xs := [Operand.tmp 71]) (args := [Value.pointer none]) p6_15_1 hE wn_none rfl rfl Try.func22 cl22 (nil_mean  _) ?_)
      rintro e w20 ⟨rfl, hk⟩
      replace B_g1 := kp_blk B_g1 hk (fun h => h)
      replace K_0 := K_0.then_ hk (fun _ h => h.elim)
      refine ⟨_, rfl, ?_⟩
      clear hE a; intro a hE
      refine p_cons (s_still p6_15_2 hE wn_none rfl (st_move rfl) ?_)
      clear hE a; intro a hE
      refine p_cons (s_still p6_15_3 hE wn_none rfl (st_extract rfl rfl) ?_)
      clear hE a; intro a hE
      refine p_cons (s_still p6_15_4 hE wn_none rfl (st_extract rfl rfl) ?_)
      clear hE a; intro a hE
      refine p_cons (s_still p6_15_5 hE wn_none rfl (st_assign rfl) ?_)
      clear hE a; intro a hE
      refine p_cons (s_still p6_15_6 hE wn_none rfl (st_assign rfl) ?_)
      clear hE a; intro a hE
      refine p_nil ?_
      refine x_norm ?_
      refine c_reg R6_16_l ?_
      refine p_cons (s_call (xs := []) (args := []) p6_16_0 hE wn_none rfl rfl Try.func12 cl12 (known_any  _) ?_)
      rintro e w21 ⟨rfl, hk⟩
      replace B_g1 := kp_blk B_g1 hk (fun h => h)
      replace K_0 := K_0.then_ hk (fun _ h => h.elim)
      refine ⟨_, rfl, ?_⟩
      clear hE a; intro a hE
      refine p_cons (s_still p6_16_1 hE wn_none rfl (st_move rfl) ?_)
      clear hE a; intro a hE
      refine p_cons (s_still p6_16_2 hE (wn_some g6_16_1 rfl rfl) rfl (st_move rfl) ?_)
      clear hE a; intro a hE
      refine p_cons (s_still p6_16_3 hE (wn_some g6_16_1 rfl rfl) rfl (st_eql (b := true) rfl rfl (by decide)) ?_)
      clear hE a; intro a hE
      refine p_cons (s_still p6_16_4 hE wn_none rfl (st_pick rfl rfl) ?_)
      clear hE a; intro a hE
      refine p_cons (s_still p6_16_5 hE wn_none rfl (st_move rfl) ?_)
      clear hE a; intro a hE
      refine p_cons (s_still p6_16_6 hE (wn_some g6_16_5 rfl rfl) rfl (st_move rfl) ?_)
      clear hE a; intro a hE
      refine p_cons (s_call (xs := [Operand.tmp 81, Operand.const (Value.int IntKind.i64 1)]) (args := [Value.pointer none, Value.int .i64 1]) p6_16_7 hE (wn_some g6_16_5 rfl rfl) rfl rfl Try.func17 cl17 (nil_samp  _) ?_)
      rintro e w22 ⟨rfl, hk⟩
      replace B_g1 := kp_blk B_g1 hk (fun h => h)
      replace K_0 := K_0.then_ hk (fun _ h => h.elim)
      refine ⟨_, rfl, ?_⟩
      clear hE a; intro a hE
      refine p_cons (s_still p6_16_8 hE (wn_some g6_16_5 rfl rfl) rfl (st_eql (b := true) rfl rfl (by decide)) ?_)
      clear hE a; intro a hE
      refine p_cons (s_still p6_16_9 hE wn_none rfl (st_pick rfl rfl) ?_)
      clear hE a; intro a hE
      refine p_cons (s_still p6_16_10 hE wn_none rfl (st_move rfl) ?_)
      clear hE a; intro a hE
      refine p_cons (s_still p6_16_11 hE (wn_some g6_16_10 rfl rfl) rfl (st_move rfl) ?_)
      clear hE a; intro a hE
      refine p_cons (s_call (xs := [Operand.tmp 86, Operand.const (Value.float FloatKind.f64 4607182418800017408)]) (args := [Value.pointer none, Value.float .f64 4607182418800017408]) p6_16_12 hE (wn_some g6_16_10 rfl rfl) rfl rfl Try.func20 cl20 (nil_set  _) ?_)
      rintro e w23 ⟨rfl, hk⟩
      replace B_g1 := kp_blk B_g1 hk (fun h => h)
      replace K_0 := K_0.then_ hk (fun _ h => h.elim)
      refine ⟨_, rfl, ?_⟩
      clear hE a; intro a hE
      refine p_cons (s_still p6_16_13 hE (wn_some g6_16_10 rfl rfl) rfl (st_eql (b := true) rfl rfl (by decide)) ?_)
      clear hE a; intro a hE
      refine p_cons (s_still p6_16_14 hE wn_none rfl (st_pick rfl rfl) ?_)
      clear hE a; intro a hE
      refine p_cons (s_still p6_16_15 hE wn_none rfl (st_move rfl) ?_)
      clear hE a; intro a hE
      refine p_cons (s_still p6_16_16 hE (wn_some g6_16_15 rfl rfl) rfl (st_move rfl) ?_)
      clear hE a; intro a hE
      refine p_cons (s_call (xs := [Operand.tmp 91]) (args := [Value.pointer none]) p6_16_17 hE (wn_some g6_16_15 rfl rfl) rfl rfl Try.func24 cl24 (nil_cost  _) ?_)
      rintro e w24 ⟨rfl, hk⟩
      replace B_g1 := kp_blk B_g1 hk (fun h => h)
      replace K_0 := K_0.then_ hk (fun _ h => h.elim)
      refine ⟨_, rfl, ?_⟩
      clear hE a; intro a hE
      refine p_cons (s_still p6_16_18 hE (wn_some g6_16_15 rfl rfl) rfl (st_eql (b := true) rfl rfl (by decide)) ?_)
      clear hE a; intro a hE
      refine p_cons (s_still p6_16_19 hE wn_none rfl (st_pick rfl rfl) ?_)
      clear hE a; intro a hE
      refine p_cons (s_still p6_16_20 hE wn_none rfl (st_move rfl) ?_)
      clear hE a; intro a hE
      refine p_cons (s_still p6_16_21 hE (wn_some g6_16_20 rfl rfl) rfl (st_move rfl) ?_)
      clear hE a; intro a hE
      refine p_cons (s_call (xs := [Operand.tmp 96]) (args := [Value.pointer none]) p6_16_22 hE (wn_some g6_16_20 rfl rfl) rfl rfl Try.func23 cl23 (nil_sent  _) ?_)
      rintro e w25 ⟨rfl, hk⟩
      replace B_g1 := kp_blk B_g1 hk (fun h => h)
      replace K_0 := K_0.then_ hk (fun _ h => h.elim)
      refine ⟨_, rfl, ?_⟩
      clear hE a; intro a hE
      refine p_cons (s_still p6_16_23 hE (wn_some g6_16_20 rfl rfl) rfl (st_eql (b := true) rfl rfl (by decide)) ?_)
      clear hE a; intro a hE
      refine p_cons (s_still p6_16_24 hE wn_none rfl (st_pick rfl rfl) ?_)
      clear hE a; intro a hE
      refine p_cons (s_still p6_16_25 hE wn_none rfl (st_move rfl) ?_)
      clear hE a; intro a hE
      refine p_cons (s_still p6_16_26 hE (wn_some g6_16_25 rfl rfl) rfl (st_move rfl) ?_)
      clear hE a; intro a hE
      refine p_cons (s_call (xs := [Operand.tmp 101]) (args := [Value.pointer none]) p6_16_27 hE (wn_some g6_16_25 rfl rfl) rfl rfl Try.func21 cl21 (nil_copy  _) ?_)
      rintro e w26 ⟨rfl, hk⟩
      replace B_g1 := kp_blk B_g1 hk (fun h => h)
      replace K_0 := K_0.then_ hk (fun _ h => h.elim)
      refine ⟨_, rfl, ?_⟩
      clear hE a; intro a hE
      refine p_cons (s_still p6_16_28 hE (wn_some g6_16_25 rfl rfl) rfl (st_eqlP (b := true) tP34 rfl rfl rfl) ?_)
      clear hE a; intro a hE
      refine p_cons (s_still p6_16_29 hE wn_none rfl (st_pick rfl rfl) ?_)
      clear hE a; intro a hE
      refine p_cons (s_still p6_16_30 hE wn_none rfl (st_assign rfl) ?_)
      clear hE a; intro a hE
      refine p_nil ?_
      refine x_norm ?_
      refine wp_ret ?_
      refine ret_one (v := Value.bool true) rfl hE (.tmp rfl .nil) ?_
      exact ⟨rfl, K_0.to (Nat.le_refl _) (fun _ h => h.elim)⟩
end Go.Proofs.Ytpnpfapdjdcnbaa.MMea
