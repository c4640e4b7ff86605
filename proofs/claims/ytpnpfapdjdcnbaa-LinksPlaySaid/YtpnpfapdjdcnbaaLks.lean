/- Package links: Nodes, node, both, of, New, Set, Cost. -/
import Derived.Test.YtpnpfapdjdcnbaaChecked
import Derived.Test.YtpnpfapdjdcnbaaMp
set_option maxRecDepth 100000
set_option linter.unusedVariables false
set_option linter.unusedSimpArgs false
namespace Go.Proofs.Ytpnpfapdjdcnbaa.Lk
open Go.RowKit Go.Proofs.YtpnpfapdjdcnbaaW.PrintWords Go.Proofs.Ytpnpfapdjdcnbaa.Ds
open Go.Proofs.Ytpnpfapdjdcnbaa.Pk (Kp)
open Go.Proofs.Ytpnpfapdjdcnbaa.Mp (st_eqlP st_neqP x_normS x_retS x_exitS)
def nodeB (n x : Int) : Bool := decide (0 ≤ x ∧ x < n)
def bothB (n x y : Int) : Bool := nodeB n x && nodeB n y && decide (x ≠ y)
def setB (n x y c : Int) : Bool := bothB n x y && decide (128 ≤ c ∧ c < 65535)
def lkS (n : Int) (f : Int → Int → Option Int) (x y c : Int) : Int → Int → Option Int := if setB n x y c then Mp.setF f (min x y) (max x y) c else f
def costP (n : Int) (f : Int → Int → Option Int) (x y : Int) : Int × Int := if nodeB n x && nodeB n y then (match f (min x y) (max x y) with | some v => (v, 0) | none => (0, 8)) else (0, 1)
theorem R41_0_l : List.range (regOf Try.f41 0).size = [0] := by kernel_rfl
theorem R41_1_l : List.range (regOf Try.f41 1).size = [0, 1] := by kernel_rfl
theorem R41_2_l : List.range (regOf Try.f41 2).size = [0] := by kernel_rfl
theorem R41_3_l : List.range (regOf Try.f41 3).size = [0, 1, 2, 3, 4] := by kernel_rfl
theorem body41 : Try.f41.body = some (.seq (.region 0 (regOf Try.f41 0) false) (.seq (.seq (.region 1 (regOf Try.f41 1) false) (.cond (Operand.tmp 4) (.seq (.region 2 (regOf Try.f41 2) false) (.ret)) (.skip))) (.seq (.region 3 (regOf Try.f41 3) false) (.ret)))) := by kernel_rfl
theorem p41_0_0 : pj (regOf Try.f41 0) 0 = some (some 2, .assign (.const (.int .i64 0)), 3, none) := by kernel_rfl
theorem p41_1_0 : pj (regOf Try.f41 1) 0 = some (some 3, .move (.tmp 0), 56, none) := by kernel_rfl
theorem p41_1_1 : pj (regOf Try.f41 1) 1 = some (some 4, .binOp .eql 56 (.tmp 3) (.const (.pointer none)) 56, 4, none) := by kernel_rfl
theorem tP56 : Try.prog.underlying 56 = some (.pointer (Try.prog.pointee 56)) := by kernel_rfl
theorem p41_3_0 : pj (regOf Try.f41 3) 0 = some (some 5, .move (.tmp 0), 56, none) := by kernel_rfl
theorem p41_3_1 : pj (regOf Try.f41 3) 1 = some (some 6, .nilCheck (.tmp 5), 0, none) := by kernel_rfl
theorem p41_3_2 : pj (regOf Try.f41 3) 2 = some (some 7, .fieldAddr 83 (.tmp 6) 0, 0, none) := by kernel_rfl
theorem tS3 : (Try.prog.info? 3).map (·.size) = some 1 := by kernel_rfl
theorem p41_3_3 : pj (regOf Try.f41 3) 3 = some (some 8, .load 3 (.tmp 7), 3, none) := by kernel_rfl
theorem tA3 : (Try.prog.underlying 3).map aggD = some false := by kernel_rfl
theorem p41_3_4 : pj (regOf Try.f41 3) 4 = some (some 2, .assign (.tmp 8), 3, none) := by kernel_rfl
set_option maxHeartbeats 4000000 in
theorem nodes_any (g : Nat) (n : Int) (V : Value) (w : World) (hg : w.heap[g]? = some (.cells #[.int .i64 n, V] 83 (0, 0))) : Calls Try.prog 41 #[.pointer (some ⟨g, 0, none⟩)] w fun e w' => e = .returned (.int .i64 n) ∧ Kp w w' (fun _ => False) := by
  have K_0 := Kp.refl w (fun _ => False)
  have B_g := hg
  refine enter (args := [Value.pointer (some ⟨g, 0, none⟩)]) (n := 9) Try.func41 body41 rfl rfl rfl ?_
  intro a hE
  refine c_reg R41_0_l ?_
  refine q0 p41_0_0 hE (st_assign rfl) ?_
  clear hE a; intro a hE
  refine p_nil ?_
  refine x_norm ?_
  refine wp_seq ?_
  refine c_reg R41_1_l ?_
  refine q0 p41_1_0 hE (st_move rfl) ?_
  clear hE a; intro a hE
  refine q0 p41_1_1 hE (st_eqlP (b := false) tP56 rfl rfl rfl) ?_
  clear hE a; intro a hE
  refine p_nil ?_
  refine x_norm ?_
  refine c_cond (t := false) hE rfl ?_
  refine wp_skip ?_
  refine x_norm ?_
  refine c_reg R41_3_l ?_
  refine q0 p41_3_0 hE (st_move rfl) ?_
  clear hE a; intro a hE
  refine q0 p41_3_1 hE (st_nil rfl) ?_
  clear hE a; intro a hE
  refine q0 p41_3_2 hE (st_fieldAddr Try.underlying83 rfl tS3 rfl rfl) ?_
  clear hE a; intro a hE
  refine q0 p41_3_3 hE (st_load1 tA3 rfl ((blk_cell B_g 0).trans rfl)) ?_
  clear hE a; intro a hE
  refine q0 p41_3_4 hE (st_assign rfl) ?_
  clear hE a; intro a hE
  refine p_nil ?_
  refine x_norm ?_
  refine wp_ret ?_
  refine ret_one (v := Value.int .i64 n) rfl hE (.tmp rfl .nil) ?_
  exact ⟨rfl, K_0⟩
theorem R55_0_l : List.range (regOf Try.f55 0).size = [0] := by kernel_rfl
theorem R55_1_l : List.range (regOf Try.f55 1).size = [0, 1, 2, 3, 4, 5, 6, 7, 8] := by kernel_rfl
theorem body55 : Try.f55.body = some (.seq (.region 0 (regOf Try.f55 0) false) (.seq (.region 1 (regOf Try.f55 1) false) (.ret))) := by kernel_rfl
theorem p55_0_0 : pj (regOf Try.f55 0) 0 = some (some 4, .assign (.const (.bool false)), 4, none) := by kernel_rfl
theorem p55_1_0 : pj (regOf Try.f55 1) 0 = some (some 5, .move (.tmp 1), 3, none) := by kernel_rfl
theorem p55_1_1 : pj (regOf Try.f55 1) 1 = some (some 6, .binOp .geq 3 (.tmp 5) (.const (.int .i64 0)) 3, 4, none) := by kernel_rfl
theorem p55_1_2 : pj (regOf Try.f55 1) 2 = some (some 7, .move (.tmp 6), 4, none) := by kernel_rfl
theorem p55_1_3 : pj (regOf Try.f55 1) 3 = some (some 8, .move (.tmp 1), 3, some (2, true)) := by kernel_rfl
theorem g55_1_2 : dstOf (regOf Try.f55 1) 2 = some 7 := by kernel_rfl
theorem p55_1_4 : pj (regOf Try.f55 1) 4 = some (some 9, .move (.tmp 0), 56, some (2, true)) := by kernel_rfl
theorem p55_1_5 : pj (regOf Try.f55 1) 5 = some (some 10, .call { callee := .value (.func 41), args := #[.tmp 9], argTypes := #[56] }, 3, some (2, true)) := by kernel_rfl
theorem cl41 : callable Try.f41 = true := by kernel_rfl
theorem p55_1_6 : pj (regOf Try.f55 1) 6 = some (some 11, .binOp .lss 3 (.tmp 8) (.tmp 10) 3, 4, some (2, true)) := by kernel_rfl
theorem p55_1_7 : pj (regOf Try.f55 1) 7 = some (some 12, .pick (.tmp 7) (.tmp 11) (.const (.bool false)), 4, none) := by kernel_rfl
theorem p55_1_8 : pj (regOf Try.f55 1) 8 = some (some 4, .assign (.tmp 12), 4, none) := by kernel_rfl
set_option maxHeartbeats 4000000 in
theorem node_any (g : Nat) (n x : Int) (V : Value) (b : Bool) (hb : nodeB n x = b) (w : World) (hg : w.heap[g]? = some (.cells #[.int .i64 n, V] 83 (0, 0))) : Calls Try.prog 55 #[.pointer (some ⟨g, 0, none⟩), .int .i64 x] w fun e w' => e = .returned (.bool b) ∧ Kp w w' (fun _ => False) := by
  have K_0 := Kp.refl w (fun _ => False)
  have B_g := hg
  refine enter (args := [Value.pointer (some ⟨g, 0, none⟩), Value.int .i64 x]) (n := 13) Try.func55 body55 rfl rfl rfl ?_
  intro a hE
  refine c_reg R55_0_l ?_
  refine q0 p55_0_0 hE (st_assign rfl) ?_
  clear hE a; intro a hE
  refine p_nil ?_
  refine x_norm ?_
  rcases Decidable.em (0 ≤ x) with hP1 | hP1
  ·
    rcases Decidable.em (x < n) with hP2 | hP2
    ·
      refine c_reg R55_1_l ?_
      refine q0 p55_1_0 hE (st_move rfl) ?_
      clear hE a; intro a hE
      refine q0 p55_1_1 hE (st_geq (b := true) rfl rfl (decide_eq_true hP1)) ?_
      clear hE a; intro a hE
      refine q0 p55_1_2 hE (st_move rfl) ?_
      clear hE a; intro a hE
      refine p_cons (s_still p55_1_3 hE (wn_some g55_1_2 rfl rfl) rfl (st_move rfl) ?_)
      clear hE a; intro a hE
      refine p_cons (s_still p55_1_4 hE (wn_some g55_1_2 rfl rfl) rfl (st_move rfl) ?_)
      clear hE a; intro a hE
      refine p_cons (s_call (xs := [Operand.tmp 9]) (args := [Value.pointer (some ⟨g, 0, none⟩)]) p55_1_5 hE (wn_some g55_1_2 rfl rfl) rfl rfl Try.func41 cl41 (nodes_any g n V _ B_g) ?_)
      rintro e w1 ⟨rfl, hk⟩
      replace B_g := kp_blk B_g hk (fun h => h)
      replace K_0 := K_0.then_ hk (fun _ h => h.elim)
      refine ⟨_, rfl, ?_⟩
      clear hE a; intro a hE
      refine p_cons (s_still p55_1_6 hE (wn_some g55_1_2 rfl rfl) rfl (st_lss (b := true) rfl rfl (decide_eq_true hP2)) ?_)
      clear hE a; intro a hE
      refine q0 p55_1_7 hE (st_pick rfl rfl) ?_
      clear hE a; intro a hE
      refine q0 p55_1_8 hE (st_assign rfl) ?_
      clear hE a; intro a hE
      refine p_nil ?_
      refine x_norm ?_
      refine wp_ret ?_
      refine ret_one (v := Value.bool true) rfl hE (.tmp rfl .nil) ?_
      exact ⟨by rw [← hb]; unfold nodeB; rw [decide_eq_true ⟨hP1, hP2⟩], K_0⟩
    ·
      refine c_reg R55_1_l ?_
      refine q0 p55_1_0 hE (st_move rfl) ?_
      clear hE a; intro a hE
      refine q0 p55_1_1 hE (st_geq (b := true) rfl rfl (decide_eq_true hP1)) ?_
      clear hE a; intro a hE
      refine q0 p55_1_2 hE (st_move rfl) ?_
      clear hE a; intro a hE
      refine p_cons (s_still p55_1_3 hE (wn_some g55_1_2 rfl rfl) rfl (st_move rfl) ?_)
      clear hE a; intro a hE
      refine p_cons (s_still p55_1_4 hE (wn_some g55_1_2 rfl rfl) rfl (st_move rfl) ?_)
      clear hE a; intro a hE
      refine p_cons (s_call (xs := [Operand.tmp 9]) (args := [Value.pointer (some ⟨g, 0, none⟩)]) p55_1_5 hE (wn_some g55_1_2 rfl rfl) rfl rfl Try.func41 cl41 (nodes_any g n V _ B_g) ?_)
      rintro e w2 ⟨rfl, hk⟩
      replace B_g := kp_blk B_g hk (fun h => h)
      replace K_0 := K_0.then_ hk (fun _ h => h.elim)
      refine ⟨_, rfl, ?_⟩
      clear hE a; intro a hE
      refine p_cons (s_still p55_1_6 hE (wn_some g55_1_2 rfl rfl) rfl (st_lss (b := false) rfl rfl (decide_eq_false hP2)) ?_)
      clear hE a; intro a hE
      refine q0 p55_1_7 hE (st_pick rfl rfl) ?_
      clear hE a; intro a hE
      refine q0 p55_1_8 hE (st_assign rfl) ?_
      clear hE a; intro a hE
      refine p_nil ?_
      refine x_norm ?_
      refine wp_ret ?_
      refine ret_one (v := Value.bool false) rfl hE (.tmp rfl .nil) ?_
      exact ⟨by rw [← hb]; unfold nodeB; rw [decide_eq_false (by omega)], K_0⟩
  ·
    refine c_reg R55_1_l ?_
    refine q0 p55_1_0 hE (st_move rfl) ?_
    clear hE a; intro a hE
    refine q0 p55_1_1 hE (st_geq (b := false) rfl rfl (decide_eq_false hP1)) ?_
    clear hE a; intro a hE
    refine q0 p55_1_2 hE (st_move rfl) ?_
    clear hE a; intro a hE
    refine p_cons (s_skip p55_1_3 hE (wn_some g55_1_2 rfl rfl) rfl ?_)
    clear hE a; intro a hE
    refine p_cons (s_skip p55_1_4 hE (wn_some g55_1_2 rfl rfl) rfl ?_)
    clear hE a; intro a hE
    refine p_cons (s_skip p55_1_5 hE (wn_some g55_1_2 rfl rfl) rfl ?_)
    clear hE a; intro a hE
    refine p_cons (s_skip p55_1_6 hE (wn_some g55_1_2 rfl rfl) rfl ?_)
    clear hE a; intro a hE
    refine q0 p55_1_7 hE (st_pick rfl rfl) ?_
    clear hE a; intro a hE
    refine q0 p55_1_8 hE (st_assign rfl) ?_
    clear hE a; intro a hE
    refine p_nil ?_
    refine x_norm ?_
    refine wp_ret ?_
    refine ret_one (v := Value.bool false) rfl hE (.tmp rfl .nil) ?_
    exact ⟨by rw [← hb]; unfold nodeB; rw [decide_eq_false (by omega)], K_0⟩
theorem R54_0_l : List.range (regOf Try.f54 0).size = [0] := by kernel_rfl
theorem R54_1_l : List.range (regOf Try.f54 1).size = [0, 1, 2, 3, 4, 5, 6, 7] := by kernel_rfl
theorem body54 : Try.f54.body = some (.seq (.region 0 (regOf Try.f54 0) false) (.seq (.region 1 (regOf Try.f54 1) false) (.ret))) := by kernel_rfl
theorem p54_0_0 : pj (regOf Try.f54 0) 0 = some (some 4, .alloc 86, 0, none) := by kernel_rfl
theorem tZ86 : (Try.prog.info? 86).bind (·.zero) = some (Value.agg #[Value.int .i64 0, Value.int .i64 0]) := by kernel_rfl
theorem p54_1_0 : pj (regOf Try.f54 1) 0 = some (some 5, .move (.tmp 0), 3, none) := by kernel_rfl
theorem p54_1_1 : pj (regOf Try.f54 1) 1 = some (some 6, .move (.tmp 1), 3, none) := by kernel_rfl
theorem p54_1_2 : pj (regOf Try.f54 1) 2 = some (some 7, .call { callee := .builtin .min, args := #[.tmp 5, .tmp 6], argTypes := #[3, 3] }, 3, none) := by kernel_rfl
theorem p54_1_3 : pj (regOf Try.f54 1) 3 = some (some 8, .move (.tmp 0), 3, none) := by kernel_rfl
theorem p54_1_4 : pj (regOf Try.f54 1) 4 = some (some 9, .move (.tmp 1), 3, none) := by kernel_rfl
theorem p54_1_5 : pj (regOf Try.f54 1) 5 = some (some 10, .call { callee := .builtin .max, args := #[.tmp 8, .tmp 9], argTypes := #[3, 3] }, 3, none) := by kernel_rfl
theorem p54_1_6 : pj (regOf Try.f54 1) 6 = some (some 11, .build 86 #[(0, .tmp 7), (1, .tmp 10)], 86, none) := by kernel_rfl
theorem p54_1_7 : pj (regOf Try.f54 1) 7 = some (none, .store 86 (.tmp 4) (.tmp 11), 0, none) := by kernel_rfl
theorem tS86 : (Try.prog.info? 86).map (·.size) = some 2 := by kernel_rfl
theorem tA86 : (Try.prog.underlying 86).map aggD = some true := by kernel_rfl
set_option maxHeartbeats 4000000 in
theorem of_any (x y : Int) (w : World) : Calls Try.prog 54 #[.int .i64 x, .int .i64 y] w fun e w' => e = .returned (.agg #[.int .i64 (min x y), .int .i64 (max x y)]) ∧ Kp w w' (fun _ => False) := by
  have K_0 := Kp.refl w (fun _ => False)
  refine enter (args := [Value.int .i64 x, Value.int .i64 y]) (n := 12) Try.func54 body54 rfl rfl rfl ?_
  intro a hE
  refine c_reg R54_0_l ?_
  refine p_cons (s_alloc p54_0_0 hE wn_none rfl tZ86 ?_)
  clear hE a; intro g1 w2 z3 B_g1 hk a hE
  replace B_g1 : w2.heap[g1]? = some (.cells #[Value.int .i64 0, Value.int .i64 0] 86 (0, 0)) := B_g1
  have z_0_g1 := Nat.le_trans K_0.kept.1 z3
  replace K_0 := K_0.then_ hk (fun _ h => h.elim)
  clear hk
  refine p_nil ?_
  refine x_norm ?_
  refine c_reg R54_1_l ?_
  refine q0 p54_1_0 hE (st_move rfl) ?_
  clear hE a; intro a hE
  refine q0 p54_1_1 hE (st_move rfl) ?_
  clear hE a; intro a hE
  refine q0 p54_1_2 hE (st_min (z := (min x y)) rfl rfl (by rw [Int.min_def]; split <;> split <;> omega)) ?_
  clear hE a; intro a hE
  refine q0 p54_1_3 hE (st_move rfl) ?_
  clear hE a; intro a hE
  refine q0 p54_1_4 hE (st_move rfl) ?_
  clear hE a; intro a hE
  refine q0 p54_1_5 hE (st_max (z := (max x y)) rfl rfl (by rw [Int.max_def]; split <;> split <;> omega)) ?_
  clear hE a; intro a hE
  refine q0 p54_1_6 hE (st_build (xs := [(0, Operand.tmp 7), (1, Operand.tmp 10)]) (vs := [(0, Value.int .i64 (min x y)), (1, Value.int .i64 (max x y))]) (cs := #[Value.int .i64 (min x y), Value.int .i64 (max x y)]) rfl (by kernel_rfl)) ?_
  clear hE a; intro a hE
  refine p_cons (s_store (off := 0) (k := 2) (cs' := #[Value.int .i64 (min x y), Value.int .i64 (max x y)]) p54_1_7 hE wn_none tS86 rfl rfl rfl rfl B_g1 (Nat.le_of_ble_eq_true rfl) rfl ?_)
  intro w4 B_g1' hk
  replace K_0 := K_0.then_ hk (fun k h => by rw [show k = g1 from h]; exact Or.inr z_0_g1)
  replace B_g1 := B_g1'
  clear hk
  refine p_nil ?_
  refine x_norm ?_
  refine wp_ret ?_
  refine ret_one (v := Value.agg #[Value.int .i64 (min x y), Value.int .i64 (max x y)]) rfl hE (.cellN (us := [Value.int .i64 (min x y), Value.int .i64 (max x y)]) tA86 tS86 rfl B_g1 rfl .nil) ?_
  exact ⟨rfl, K_0⟩
theorem R53_0_l : List.range (regOf Try.f53 0).size = [0] := by kernel_rfl
theorem R53_1_l : List.range (regOf Try.f53 1).size = [0, 1, 2] := by kernel_rfl
theorem R53_2_l : List.range (regOf Try.f53 2).size = [0] := by kernel_rfl
theorem R53_3_l : List.range (regOf Try.f53 3).size = [0, 1, 2, 3, 4, 5, 6, 7, 8, 9, 10, 11, 12, 13, 14, 15] := by kernel_rfl
theorem R53_4_l : List.range (regOf Try.f53 4).size = [0] := by kernel_rfl
theorem R53_5_l : List.range (regOf Try.f53 5).size = [0] := by kernel_rfl
theorem body53 : Try.f53.body = some (.seq (.region 0 (regOf Try.f53 0) false) (.seq (.block 0 (.seq (.region 1 (regOf Try.f53 1) false) (.cond (Operand.tmp 7) (.seq (.region 2 (regOf Try.f53 2) false) (.ret)) (.seq (.region 3 (regOf Try.f53 3) false) (.cond (Operand.tmp 10) (.seq (.region 4 (regOf Try.f53 4) false) (.ret)) (.skip)))))) (.seq (.region 5 (regOf Try.f53 5) false) (.ret)))) := by kernel_rfl
theorem p53_0_0 : pj (regOf Try.f53 0) 0 = some (some 6, .assign (.const (.int .i64 0)), 23, none) := by kernel_rfl
theorem p53_1_0 : pj (regOf Try.f53 1) 0 = some (some 8, .move (.tmp 0), 56, none) := by kernel_rfl
theorem p53_1_1 : pj (regOf Try.f53 1) 1 = some (some 9, .binOp .eql 56 (.tmp 8) (.const (.pointer none)) 56, 4, none) := by kernel_rfl
theorem p53_1_2 : pj (regOf Try.f53 1) 2 = some (some 7, .assign (.tmp 9), 4, none) := by kernel_rfl
theorem p53_3_0 : pj (regOf Try.f53 3) 0 = some (some 11, .move (.tmp 0), 56, none) := by kernel_rfl
theorem p53_3_1 : pj (regOf Try.f53 3) 1 = some (some 12, .move (.tmp 1), 3, none) := by kernel_rfl
theorem p53_3_2 : pj (regOf Try.f53 3) 2 = some (some 13, .call { callee := .value (.func 55), args := #[.tmp 11, .tmp 12], argTypes := #[56, 3] }, 4, none) := by kernel_rfl
theorem cl55 : callable Try.f55 = true := by kernel_rfl
theorem p53_3_3 : pj (regOf Try.f53 3) 3 = some (some 14, .unOp .not 4 (.tmp 13), 4, none) := by kernel_rfl
theorem p53_3_4 : pj (regOf Try.f53 3) 4 = some (some 15, .move (.tmp 14), 4, none) := by kernel_rfl
theorem p53_3_5 : pj (regOf Try.f53 3) 5 = some (some 16, .move (.tmp 0), 56, some (4, false)) := by kernel_rfl
theorem g53_3_4 : dstOf (regOf Try.f53 3) 4 = some 15 := by kernel_rfl
theorem p53_3_6 : pj (regOf Try.f53 3) 6 = some (some 17, .move (.tmp 2), 3, some (4, false)) := by kernel_rfl
theorem p53_3_7 : pj (regOf Try.f53 3) 7 = some (some 18, .call { callee := .value (.func 55), args := #[.tmp 16, .tmp 17], argTypes := #[56, 3] }, 4, some (4, false)) := by kernel_rfl
theorem p53_3_8 : pj (regOf Try.f53 3) 8 = some (some 19, .unOp .not 4 (.tmp 18), 4, some (4, false)) := by kernel_rfl
theorem p53_3_9 : pj (regOf Try.f53 3) 9 = some (some 20, .pick (.tmp 15) (.const (.bool true)) (.tmp 19), 4, none) := by kernel_rfl
theorem p53_3_10 : pj (regOf Try.f53 3) 10 = some (some 21, .move (.tmp 20), 4, none) := by kernel_rfl
theorem p53_3_11 : pj (regOf Try.f53 3) 11 = some (some 22, .move (.tmp 1), 3, some (10, false)) := by kernel_rfl
theorem g53_3_10 : dstOf (regOf Try.f53 3) 10 = some 21 := by kernel_rfl
theorem p53_3_12 : pj (regOf Try.f53 3) 12 = some (some 23, .move (.tmp 2), 3, some (10, false)) := by kernel_rfl
theorem p53_3_13 : pj (regOf Try.f53 3) 13 = some (some 24, .binOp .eql 3 (.tmp 22) (.tmp 23) 3, 4, some (10, false)) := by kernel_rfl
theorem p53_3_14 : pj (regOf Try.f53 3) 14 = some (some 25, .pick (.tmp 21) (.const (.bool true)) (.tmp 24), 4, none) := by kernel_rfl
theorem p53_3_15 : pj (regOf Try.f53 3) 15 = some (some 10, .assign (.tmp 25), 4, none) := by kernel_rfl
theorem p53_4_0 : pj (regOf Try.f53 4) 0 = some (some 6, .assign (.const (.int .i64 1)), 23, none) := by kernel_rfl
theorem p53_5_0 : pj (regOf Try.f53 5) 0 = some (some 6, .assign (.const (.int .i64 0)), 23, none) := by kernel_rfl
set_option maxHeartbeats 4000000 in
theorem both_any (g : Nat) (n x y : Int) (V : Value) (w : World) (hg : w.heap[g]? = some (.cells #[.int .i64 n, V] 83 (0, 0))) : Calls Try.prog 53 #[.pointer (some ⟨g, 0, none⟩), .int .i64 x, .int .i64 y] w fun e w' => e = .returned (.int .i64 (bif bothB n x y then 0 else 1)) ∧ Kp w w' (fun _ => False) := by
  have K_0 := Kp.refl w (fun _ => False)
  have B_g := hg
  refine enter (args := [Value.pointer (some ⟨g, 0, none⟩), Value.int .i64 x, Value.int .i64 y]) (n := 26) Try.func53 body53 rfl rfl rfl ?_
  intro a hE
  refine c_reg R53_0_l ?_
  refine q0 p53_0_0 hE (st_assign rfl) ?_
  clear hE a; intro a hE
  refine p_nil ?_
  refine x_norm ?_
  refine wp_seq ?_
  refine wp_block ?_
  refine c_reg R53_1_l ?_
  refine q0 p53_1_0 hE (st_move rfl) ?_
  clear hE a; intro a hE
  refine q0 p53_1_1 hE (st_eqlP (b := false) tP56 rfl rfl rfl) ?_
  clear hE a; intro a hE
  refine q0 p53_1_2 hE (st_assign rfl) ?_
  clear hE a; intro a hE
  refine p_nil ?_
  refine x_norm ?_
  refine c_cond (t := false) hE rfl ?_
  rcases Decidable.em (nodeB n x = true) with hNA | hNA
  ·
    rcases Decidable.em (nodeB n y = true) with hNB | hNB
    ·
      rcases Decidable.em (x = y) with hEQ | hEQ
      ·
        refine c_reg R53_3_l ?_
        refine q0 p53_3_0 hE (st_move rfl) ?_
        clear hE a; intro a hE
        refine q0 p53_3_1 hE (st_move rfl) ?_
        clear hE a; intro a hE
        refine p_cons (s_call (xs := [Operand.tmp 11, Operand.tmp 12]) (args := [Value.pointer (some ⟨g, 0, none⟩), Value.int .i64 x]) p53_3_2 hE wn_none rfl rfl Try.func55 cl55 (node_any g n x V true hNA _ B_g) ?_)
        rintro e w1 ⟨rfl, hk⟩
        replace B_g := kp_blk B_g hk (fun h => h)
        replace K_0 := K_0.then_ hk (fun _ h => h.elim)
        refine ⟨_, rfl, ?_⟩
        clear hE a; intro a hE
        refine q0 p53_3_3 hE (st_not rfl rfl) ?_
        clear hE a; intro a hE
        refine q0 p53_3_4 hE (st_move rfl) ?_
        clear hE a; intro a hE
        refine p_cons (s_still p53_3_5 hE (wn_some g53_3_4 rfl rfl) rfl (st_move rfl) ?_)
        clear hE a; intro a hE
        refine p_cons (s_still p53_3_6 hE (wn_some g53_3_4 rfl rfl) rfl (st_move rfl) ?_)
        clear hE a; intro a hE
        refine p_cons (s_call (xs := [Operand.tmp 16, Operand.tmp 17]) (args := [Value.pointer (some ⟨g, 0, none⟩), Value.int .i64 y]) p53_3_7 hE (wn_some g53_3_4 rfl rfl) rfl rfl Try.func55 cl55 (node_any g n y V true hNB _ B_g) ?_)
        rintro e w2 ⟨rfl, hk⟩
        replace B_g := kp_blk B_g hk (fun h => h)
        replace K_0 := K_0.then_ hk (fun _ h => h.elim)
        refine ⟨_, rfl, ?_⟩
        clear hE a; intro a hE
        refine p_cons (s_still p53_3_8 hE (wn_some g53_3_4 rfl rfl) rfl (st_not rfl rfl) ?_)
        clear hE a; intro a hE
        refine q0 p53_3_9 hE (st_pick rfl rfl) ?_
        clear hE a; intro a hE
        refine q0 p53_3_10 hE (st_move rfl) ?_
        clear hE a; intro a hE
        refine p_cons (s_still p53_3_11 hE (wn_some g53_3_10 rfl rfl) rfl (st_move rfl) ?_)
        clear hE a; intro a hE
        refine p_cons (s_still p53_3_12 hE (wn_some g53_3_10 rfl rfl) rfl (st_move rfl) ?_)
        clear hE a; intro a hE
        refine p_cons (s_still p53_3_13 hE (wn_some g53_3_10 rfl rfl) rfl (st_eql (b := true) rfl rfl (decide_eq_true hEQ)) ?_)
        clear hE a; intro a hE
        refine q0 p53_3_14 hE (st_pick rfl rfl) ?_
        clear hE a; intro a hE
        refine q0 p53_3_15 hE (st_assign rfl) ?_
        clear hE a; intro a hE
        refine p_nil ?_
        refine x_norm ?_
        refine c_cond (t := true) hE rfl ?_
        refine c_reg R53_4_l ?_
        refine q0 p53_4_0 hE (st_assign rfl) ?_
        clear hE a; intro a hE
        refine p_nil ?_
        refine x_norm ?_
        refine wp_ret ?_
        refine x_retB ?_
        refine x_ret ?_
        refine ret_one (v := Value.int .i64 1) rfl hE (.tmp rfl .nil) ?_
        exact ⟨by rw [show bothB n x y = false by unfold bothB; rw [hNA, hNB, decide_eq_false (fun h => h hEQ)]; rfl]; rfl, K_0⟩
      ·
        refine c_reg R53_3_l ?_
        refine q0 p53_3_0 hE (st_move rfl) ?_
        clear hE a; intro a hE
        refine q0 p53_3_1 hE (st_move rfl) ?_
        clear hE a; intro a hE
        refine p_cons (s_call (xs := [Operand.tmp 11, Operand.tmp 12]) (args := [Value.pointer (some ⟨g, 0, none⟩), Value.int .i64 x]) p53_3_2 hE wn_none rfl rfl Try.func55 cl55 (node_any g n x V true hNA _ B_g) ?_)
        rintro e w3 ⟨rfl, hk⟩
        replace B_g := kp_blk B_g hk (fun h => h)
        replace K_0 := K_0.then_ hk (fun _ h => h.elim)
        refine ⟨_, rfl, ?_⟩
        clear hE a; intro a hE
        refine q0 p53_3_3 hE (st_not rfl rfl) ?_
        clear hE a; intro a hE
        refine q0 p53_3_4 hE (st_move rfl) ?_
        clear hE a; intro a hE
        refine p_cons (s_still p53_3_5 hE (wn_some g53_3_4 rfl rfl) rfl (st_move rfl) ?_)
        clear hE a; intro a hE
        refine p_cons (s_still p53_3_6 hE (wn_some g53_3_4 rfl rfl) rfl (st_move rfl) ?_)
        clear hE a; intro a hE
        refine p_cons (s_call (xs := [Operand.tmp 16, Operand.tmp 17]) (args := [Value.pointer (some ⟨g, 0, none⟩), Value.int .i64 y]) p53_3_7 hE (wn_some g53_3_4 rfl rfl) rfl rfl Try.func55 cl55 (node_any g n y V true hNB _ B_g) ?_)
        rintro e w4 ⟨rfl, hk⟩
        replace B_g := kp_blk B_g hk (fun h => h)
        replace K_0 := K_0.then_ hk (fun _ h => h.elim)
        refine ⟨_, rfl, ?_⟩
        clear hE a; intro a hE
        refine p_cons (s_still p53_3_8 hE (wn_some g53_3_4 rfl rfl) rfl (st_not rfl rfl) ?_)
        clear hE a; intro a hE
        refine q0 p53_3_9 hE (st_pick rfl rfl) ?_
        clear hE a; intro a hE
        refine q0 p53_3_10 hE (st_move rfl) ?_
        clear hE a; intro a hE
        refine p_cons (s_still p53_3_11 hE (wn_some g53_3_10 rfl rfl) rfl (st_move rfl) ?_)
        clear hE a; intro a hE
        refine p_cons (s_still p53_3_12 hE (wn_some g53_3_10 rfl rfl) rfl (st_move rfl) ?_)
        clear hE a; intro a hE
        refine p_cons (s_still p53_3_13 hE (wn_some g53_3_10 rfl rfl) rfl (st_eql (b := false) rfl rfl (decide_eq_false hEQ)) ?_)
        clear hE a; intro a hE
        refine q0 p53_3_14 hE (st_pick rfl rfl) ?_
        clear hE a; intro a hE
        refine q0 p53_3_15 hE (st_assign rfl) ?_
        clear hE a; intro a hE
        refine p_nil ?_
        refine x_norm ?_
        refine c_cond (t := false) hE rfl ?_
        refine wp_skip ?_
        refine x_normB ?_
        refine x_norm ?_
        refine c_reg R53_5_l ?_
        refine q0 p53_5_0 hE (st_assign rfl) ?_
        clear hE a; intro a hE
        refine p_nil ?_
        refine x_norm ?_
        refine wp_ret ?_
        refine ret_one (v := Value.int .i64 0) rfl hE (.tmp rfl .nil) ?_
        exact ⟨by rw [show bothB n x y = true by unfold bothB; rw [hNA, hNB, decide_eq_true hEQ]; rfl]; rfl, K_0⟩
    ·
      refine c_reg R53_3_l ?_
      refine q0 p53_3_0 hE (st_move rfl) ?_
      clear hE a; intro a hE
      refine q0 p53_3_1 hE (st_move rfl) ?_
      clear hE a; intro a hE
      refine p_cons (s_call (xs := [Operand.tmp 11, Operand.tmp 12]) (args := [Value.pointer (some ⟨g, 0, none⟩), Value.int .i64 x]) p53_3_2 hE wn_none rfl rfl Try.func55 cl55 (node_any g n x V true hNA _ B_g) ?_)
      rintro e w5 ⟨rfl, hk⟩
      replace B_g := kp_blk B_g hk (fun h => h)
      replace K_0 := K_0.then_ hk (fun _ h => h.elim)
      refine ⟨_, rfl, ?_⟩
      clear hE a; intro a hE
      refine q0 p53_3_3 hE (st_not rfl rfl) ?_
      clear hE a; intro a hE
      refine q0 p53_3_4 hE (st_move rfl) ?_
      clear hE a; intro a hE
      refine p_cons (s_still p53_3_5 hE (wn_some g53_3_4 rfl rfl) rfl (st_move rfl) ?_)
      clear hE a; intro a hE
      refine p_cons (s_still p53_3_6 hE (wn_some g53_3_4 rfl rfl) rfl (st_move rfl) ?_)
      clear hE a; intro a hE
      refine p_cons (s_call (xs := [Operand.tmp 16, Operand.tmp 17]) (args := [Value.pointer (some ⟨g, 0, none⟩), Value.int .i64 y]) p53_3_7 hE (wn_some g53_3_4 rfl rfl) rfl rfl Try.func55 cl55 (node_any g n y V false (by simpa using hNB) _ B_g) ?_)
      rintro e w6 ⟨rfl, hk⟩
      replace B_g := kp_blk B_g hk (fun h => h)
      replace K_0 := K_0.then_ hk (fun _ h => h.elim)
      refine ⟨_, rfl, ?_⟩
      clear hE a; intro a hE
      refine p_cons (s_still p53_3_8 hE (wn_some g53_3_4 rfl rfl) rfl (st_not rfl rfl) ?_)
      clear hE a; intro a hE
      refine q0 p53_3_9 hE (st_pick rfl rfl) ?_
      clear hE a; intro a hE
      refine q0 p53_3_10 hE (st_move rfl) ?_
      clear hE a; intro a hE
      refine p_cons (s_skip p53_3_11 hE (wn_some g53_3_10 rfl rfl) rfl ?_)
      clear hE a; intro a hE
      refine p_cons (s_skip p53_3_12 hE (wn_some g53_3_10 rfl rfl) rfl ?_)
      clear hE a; intro a hE
      refine p_cons (s_skip p53_3_13 hE (wn_some g53_3_10 rfl rfl) rfl ?_)
      clear hE a; intro a hE
      refine q0 p53_3_14 hE (st_pick rfl rfl) ?_
      clear hE a; intro a hE
      refine q0 p53_3_15 hE (st_assign rfl) ?_
      clear hE a; intro a hE
      refine p_nil ?_
      refine x_norm ?_
      refine c_cond (t := true) hE rfl ?_
      refine c_reg R53_4_l ?_
      refine q0 p53_4_0 hE (st_assign rfl) ?_
      clear hE a; intro a hE
      refine p_nil ?_
      refine x_norm ?_
      refine wp_ret ?_
      refine x_retB ?_
      refine x_ret ?_
      refine ret_one (v := Value.int .i64 1) rfl hE (.tmp rfl .nil) ?_
      exact ⟨by rw [show bothB n x y = false by unfold bothB; rw [hNA, show nodeB n y = false by simpa using hNB]; rfl]; rfl, K_0⟩
  ·
    refine c_reg R53_3_l ?_
    refine q0 p53_3_0 hE (st_move rfl) ?_
    clear hE a; intro a hE
    refine q0 p53_3_1 hE (st_move rfl) ?_
    clear hE a; intro a hE
    refine p_cons (s_call (xs := [Operand.tmp 11, Operand.tmp 12]) (args := [Value.pointer (some ⟨g, 0, none⟩), Value.int .i64 x]) p53_3_2 hE wn_none rfl rfl Try.func55 cl55 (node_any g n x V false (by simpa using hNA) _ B_g) ?_)
    rintro e w7 ⟨rfl, hk⟩
    replace B_g := kp_blk B_g hk (fun h => h)
    replace K_0 := K_0.then_ hk (fun _ h => h.elim)
    refine ⟨_, rfl, ?_⟩
    clear hE a; intro a hE
    refine q0 p53_3_3 hE (st_not rfl rfl) ?_
    clear hE a; intro a hE
    refine q0 p53_3_4 hE (st_move rfl) ?_
    clear hE a; intro a hE
    refine p_cons (s_skip p53_3_5 hE (wn_some g53_3_4 rfl rfl) rfl ?_)
    clear hE a; intro a hE
    refine p_cons (s_skip p53_3_6 hE (wn_some g53_3_4 rfl rfl) rfl ?_)
    clear hE a; intro a hE
    refine p_cons (s_skip p53_3_7 hE (wn_some g53_3_4 rfl rfl) rfl ?_)
    clear hE a; intro a hE
    refine p_cons (s_skip p53_3_8 hE (wn_some g53_3_4 rfl rfl) rfl ?_)
    clear hE a; intro a hE
    refine q0 p53_3_9 hE (st_pick rfl rfl) ?_
    clear hE a; intro a hE
    refine q0 p53_3_10 hE (st_move rfl) ?_
    clear hE a; intro a hE
    refine p_cons (s_skip p53_3_11 hE (wn_some g53_3_10 rfl rfl) rfl ?_)
    clear hE a; intro a hE
    refine p_cons (s_skip p53_3_12 hE (wn_some g53_3_10 rfl rfl) rfl ?_)
    clear hE a; intro a hE
    refine p_cons (s_skip p53_3_13 hE (wn_some g53_3_10 rfl rfl) rfl ?_)
    clear hE a; intro a hE
    refine q0 p53_3_14 hE (st_pick rfl rfl) ?_
    clear hE a; intro a hE
    refine q0 p53_3_15 hE (st_assign rfl) ?_
    clear hE a; intro a hE
    refine p_nil ?_
    refine x_norm ?_
    refine c_cond (t := true) hE rfl ?_
    refine c_reg R53_4_l ?_
    refine q0 p53_4_0 hE (st_assign rfl) ?_
    clear hE a; intro a hE
    refine p_nil ?_
    refine x_norm ?_
    refine wp_ret ?_
    refine x_retB ?_
    refine x_ret ?_
    refine ret_one (v := Value.int .i64 1) rfl hE (.tmp rfl .nil) ?_
    exact ⟨by rw [show bothB n x y = false by unfold bothB; rw [show nodeB n x = false by simpa using hNA]; rfl]; rfl, K_0⟩
theorem R28_0_l : List.range (regOf Try.f28 0).size = [0, 1] := by kernel_rfl
theorem R28_1_l : List.range (regOf Try.f28 1).size = [0, 1, 2, 3, 4, 5] := by kernel_rfl
theorem R28_2_l : List.range (regOf Try.f28 2).size = [0, 1] := by kernel_rfl
theorem R28_3_l : List.range (regOf Try.f28 3).size = [0, 1, 2, 3, 4, 5] := by kernel_rfl
theorem body28 : Try.f28.body = some (.seq (.region 0 (regOf Try.f28 0) false) (.seq (.seq (.region 1 (regOf Try.f28 1) false) (.cond (Operand.tmp 9) (.seq (.region 2 (regOf Try.f28 2) false) (.ret)) (.skip))) (.seq (.region 3 (regOf Try.f28 3) false) (.ret)))) := by kernel_rfl
theorem p28_0_0 : pj (regOf Try.f28 0) 0 = some (some 2, .assign (.const (.pointer none)), 56, none) := by kernel_rfl
theorem p28_0_1 : pj (regOf Try.f28 0) 1 = some (some 3, .assign (.const (.int .i64 0)), 23, none) := by kernel_rfl
theorem p28_1_0 : pj (regOf Try.f28 1) 0 = some (some 4, .move (.tmp 0), 3, none) := by kernel_rfl
theorem p28_1_1 : pj (regOf Try.f28 1) 1 = some (some 5, .binOp .lss 3 (.tmp 4) (.const (.int .i64 1)) 3, 4, none) := by kernel_rfl
theorem p28_1_2 : pj (regOf Try.f28 1) 2 = some (some 6, .move (.tmp 5), 4, none) := by kernel_rfl
theorem p28_1_3 : pj (regOf Try.f28 1) 3 = some (some 7, .move (.tmp 0), 3, some (2, false)) := by kernel_rfl
theorem g28_1_2 : dstOf (regOf Try.f28 1) 2 = some 6 := by kernel_rfl
theorem p28_1_4 : pj (regOf Try.f28 1) 4 = some (some 8, .binOp .gtr 3 (.tmp 7) (.const (.int .i64 64)) 3, 4, some (2, false)) := by kernel_rfl
theorem p28_1_5 : pj (regOf Try.f28 1) 5 = some (some 9, .pick (.tmp 6) (.const (.bool true)) (.tmp 8), 4, none) := by kernel_rfl
theorem p28_3_0 : pj (regOf Try.f28 3) 0 = some (some 10, .move (.tmp 0), 3, none) := by kernel_rfl
theorem p28_3_1 : pj (regOf Try.f28 3) 1 = some (some 11, .makeMap 81 none, 81, none) := by kernel_rfl
theorem p28_3_2 : pj (regOf Try.f28 3) 2 = some (some 12, .build 83 #[(0, .tmp 10), (1, .tmp 11)], 83, none) := by kernel_rfl
theorem p28_3_3 : pj (regOf Try.f28 3) 3 = some (some 13, .box 83 (.tmp 12), 56, none) := by kernel_rfl
theorem p28_3_4 : pj (regOf Try.f28 3) 4 = some (some 2, .assign (.tmp 13), 56, none) := by kernel_rfl
theorem p28_3_5 : pj (regOf Try.f28 3) 5 = some (some 3, .assign (.const (.int .i64 0)), 23, none) := by kernel_rfl
set_option maxHeartbeats 4000000 in
theorem new_ok (x : Int) (hx : 1 ≤ x ∧ x ≤ 64) (w : World) : Calls Try.prog 28 #[.int .i64 x] w fun e w' => ∃ g gm, e = .returned (.tuple #[.pointer (some ⟨g, 0, none⟩), .int .i64 0]) ∧ w.heap.size ≤ g ∧ w.heap.size ≤ gm ∧ g ≠ gm ∧ w'.heap[g]? = some (.cells #[.int .i64 x, .map (some gm)] 83 (0, 0)) ∧ w'.heap[gm]? = some (.map #[] 0) ∧ Kp w w' (fun _ => False) := by
  have K_0 := Kp.refl w (fun _ => False)
  refine enter (args := [Value.int .i64 x]) (n := 14) Try.func28 body28 rfl rfl rfl ?_
  intro a hE
  refine c_reg R28_0_l ?_
  refine q0 p28_0_0 hE (st_assign rfl) ?_
  clear hE a; intro a hE
  refine q0 p28_0_1 hE (st_assign rfl) ?_
  clear hE a; intro a hE
  refine p_nil ?_
  refine x_norm ?_
  refine wp_seq ?_
  refine c_reg R28_1_l ?_
  refine q0 p28_1_0 hE (st_move rfl) ?_
  clear hE a; intro a hE
  refine q0 p28_1_1 hE (st_lss (b := false) rfl rfl (decide_eq_false (by omega))) ?_
  clear hE a; intro a hE
  refine q0 p28_1_2 hE (st_move rfl) ?_
  clear hE a; intro a hE
  refine p_cons (s_still p28_1_3 hE (wn_some g28_1_2 rfl rfl) rfl (st_move rfl) ?_)
  clear hE a; intro a hE
  refine p_cons (s_still p28_1_4 hE (wn_some g28_1_2 rfl rfl) rfl (st_gtr (b := false) rfl rfl (decide_eq_false (by omega))) ?_)
  clear hE a; intro a hE
  refine q0 p28_1_5 hE (st_pick rfl rfl) ?_
  clear hE a; intro a hE
  refine p_nil ?_
  refine x_norm ?_
  refine c_cond (t := false) hE rfl ?_
  refine wp_skip ?_
  refine x_norm ?_
  refine c_reg R28_3_l ?_
  refine q0 p28_3_0 hE (st_move rfl) ?_
  clear hE a; intro a hE
  refine p_cons (Mp.s_makeMap p28_3_1 hE wn_none rfl ?_)
  clear hE a; intro g1 w2 z3 B_g1 hk a hE
  have z_0_g1 := Nat.le_trans K_0.kept.1 z3
  replace K_0 := K_0.then_ hk (fun _ h => h.elim)
  clear hk
  refine q0 p28_3_2 hE (st_build (xs := [(0, Operand.tmp 10), (1, Operand.tmp 11)]) (vs := [(0, Value.int .i64 x), (1, Value.map (some g1))]) (cs := #[Value.int .i64 x, Value.map (some g1)]) rfl (by kernel_rfl)) ?_
  clear hE a; intro a hE
  refine p_cons (s_box p28_3_3 hE wn_none rfl rfl ?_)
  clear hE a; intro g4 w5 z6 B_g4 hk a hE
  replace B_g4 : w5.heap[g4]? = some (.cells #[Value.int .i64 x, Value.map (some g1)] 83 (0, 0)) := B_g4
  have n_g1_g4 : g1 ≠ g4 := ne_new B_g1 z6
  have z_0_g4 := Nat.le_trans K_0.kept.1 z6
  replace B_g1 := kp_blk B_g1 hk (fun h => h)
  replace K_0 := K_0.then_ hk (fun _ h => h.elim)
  clear hk
  refine q0 p28_3_4 hE (st_assign rfl) ?_
  clear hE a; intro a hE
  refine q0 p28_3_5 hE (st_assign rfl) ?_
  clear hE a; intro a hE
  refine p_nil ?_
  refine x_norm ?_
  refine wp_ret ?_
  refine ret_list (rs := [.tmp 2, .tmp 3]) (vs := [Value.pointer (some ⟨g4, 0, none⟩), Value.int .i64 0]) rfl hE (.tmp rfl (.tmp rfl .nil)) rfl ?_
  exact ⟨g4, g1, rfl, z_0_g4, z_0_g1, (Ne.symm n_g1_g4), B_g4, B_g1, K_0⟩
theorem p28_2_0 : pj (regOf Try.f28 2) 0 = some (some 2, .assign (.const (.pointer none)), 56, none) := by kernel_rfl
theorem p28_2_1 : pj (regOf Try.f28 2) 1 = some (some 3, .assign (.const (.int .i64 1)), 23, none) := by kernel_rfl
set_option maxHeartbeats 4000000 in
theorem new_no (x : Int) (hx : ¬ (1 ≤ x ∧ x ≤ 64)) (w : World) : Calls Try.prog 28 #[.int .i64 x] w fun e w' => e = .returned (.tuple #[.pointer none, .int .i64 1]) ∧ Kp w w' (fun _ => False) := by
  have K_0 := Kp.refl w (fun _ => False)
  refine enter (args := [Value.int .i64 x]) (n := 14) Try.func28 body28 rfl rfl rfl ?_
  intro a hE
  refine c_reg R28_0_l ?_
  refine q0 p28_0_0 hE (st_assign rfl) ?_
  clear hE a; intro a hE
  refine q0 p28_0_1 hE (st_assign rfl) ?_
  clear hE a; intro a hE
  refine p_nil ?_
  refine x_norm ?_
  refine wp_seq ?_
  rcases Decidable.em (x < 1) with hP1 | hP1
  ·
    refine c_reg R28_1_l ?_
    refine q0 p28_1_0 hE (st_move rfl) ?_
    clear hE a; intro a hE
    refine q0 p28_1_1 hE (st_lss (b := true) rfl rfl (decide_eq_true hP1)) ?_
    clear hE a; intro a hE
    refine q0 p28_1_2 hE (st_move rfl) ?_
    clear hE a; intro a hE
    refine p_cons (s_skip p28_1_3 hE (wn_some g28_1_2 rfl rfl) rfl ?_)
    clear hE a; intro a hE
    refine p_cons (s_skip p28_1_4 hE (wn_some g28_1_2 rfl rfl) rfl ?_)
    clear hE a; intro a hE
    refine q0 p28_1_5 hE (st_pick rfl rfl) ?_
    clear hE a; intro a hE
    refine p_nil ?_
    refine x_norm ?_
    refine c_cond (t := true) hE rfl ?_
    refine c_reg R28_2_l ?_
    refine q0 p28_2_0 hE (st_assign rfl) ?_
    clear hE a; intro a hE
    refine q0 p28_2_1 hE (st_assign rfl) ?_
    clear hE a; intro a hE
    refine p_nil ?_
    refine x_norm ?_
    refine wp_ret ?_
    refine x_ret ?_
    refine ret_list (rs := [.tmp 2, .tmp 3]) (vs := [Value.pointer none, Value.int .i64 1]) rfl hE (.tmp rfl (.tmp rfl .nil)) rfl ?_
    exact ⟨rfl, K_0⟩
  ·
    refine c_reg R28_1_l ?_
    refine q0 p28_1_0 hE (st_move rfl) ?_
    clear hE a; intro a hE
    refine q0 p28_1_1 hE (st_lss (b := false) rfl rfl (decide_eq_false hP1)) ?_
    clear hE a; intro a hE
    refine q0 p28_1_2 hE (st_move rfl) ?_
    clear hE a; intro a hE
    refine p_cons (s_still p28_1_3 hE (wn_some g28_1_2 rfl rfl) rfl (st_move rfl) ?_)
    clear hE a; intro a hE
    refine p_cons (s_still p28_1_4 hE (wn_some g28_1_2 rfl rfl) rfl (st_gtr (b := true) rfl rfl (decide_eq_true (by omega))) ?_)
    clear hE a; intro a hE
    refine q0 p28_1_5 hE (st_pick rfl rfl) ?_
    clear hE a; intro a hE
    refine p_nil ?_
    refine x_norm ?_
    refine c_cond (t := true) hE rfl ?_
    refine c_reg R28_2_l ?_
    refine q0 p28_2_0 hE (st_assign rfl) ?_
    clear hE a; intro a hE
    refine q0 p28_2_1 hE (st_assign rfl) ?_
    clear hE a; intro a hE
    refine p_nil ?_
    refine x_norm ?_
    refine wp_ret ?_
    refine x_ret ?_
    refine ret_list (rs := [.tmp 2, .tmp 3]) (vs := [Value.pointer none, Value.int .i64 1]) rfl hE (.tmp rfl (.tmp rfl .nil)) rfl ?_
    exact ⟨rfl, K_0⟩
theorem both_ok (g : Nat) (n x y : Int) (V : Value) (hb : bothB n x y = true) (w : World) (hg : w.heap[g]? = some (.cells #[.int .i64 n, V] 83 (0, 0))) : Calls Try.prog 53 #[.pointer (some ⟨g, 0, none⟩), .int .i64 x, .int .i64 y] w fun e w' => e = .returned (.int .i64 0) ∧ Kp w w' (fun _ => False) := by
  have := both_any g n x y V w hg
  rw [hb] at this
  exact this
theorem both_no (g : Nat) (n x y : Int) (V : Value) (hb : bothB n x y = false) (w : World) (hg : w.heap[g]? = some (.cells #[.int .i64 n, V] 83 (0, 0))) : Calls Try.prog 53 #[.pointer (some ⟨g, 0, none⟩), .int .i64 x, .int .i64 y] w fun e w' => e = .returned (.int .i64 1) ∧ Kp w w' (fun _ => False) := by
  have := both_any g n x y V w hg
  rw [hb] at this
  exact this
theorem R29_0_l : List.range (regOf Try.f29 0).size = [0] := by kernel_rfl
theorem R29_1_l : List.range (regOf Try.f29 1).size = [0, 1, 2, 3, 4] := by kernel_rfl
theorem R29_2_l : List.range (regOf Try.f29 2).size = [0, 1] := by kernel_rfl
theorem R29_3_l : List.range (regOf Try.f29 3).size = [0, 1] := by kernel_rfl
theorem R29_4_l : List.range (regOf Try.f29 4).size = [0, 1, 2, 3, 4, 5] := by kernel_rfl
theorem R29_5_l : List.range (regOf Try.f29 5).size = [0] := by kernel_rfl
theorem R29_6_l : List.range (regOf Try.f29 6).size = [0, 1, 2, 3, 4, 5, 6, 7, 8] := by kernel_rfl
theorem R29_7_l : List.range (regOf Try.f29 7).size = [0] := by kernel_rfl
theorem body29 : Try.f29.body = some (.seq (.region 0 (regOf Try.f29 0) false) (.seq (.seq (.region 1 (regOf Try.f29 1) false) (.seq (.region 2 (regOf Try.f29 2) false) (.cond (Operand.tmp 15) (.seq (.region 3 (regOf Try.f29 3) false) (.ret)) (.skip)))) (.seq (.seq (.region 4 (regOf Try.f29 4) false) (.cond (Operand.tmp 22) (.seq (.region 5 (regOf Try.f29 5) false) (.ret)) (.skip))) (.seq (.region 6 (regOf Try.f29 6) true) (.seq (.region 7 (regOf Try.f29 7) false) (.ret)))))) := by kernel_rfl
theorem p29_0_0 : pj (regOf Try.f29 0) 0 = some (some 8, .assign (.const (.int .i64 0)), 23, none) := by kernel_rfl
theorem p29_1_0 : pj (regOf Try.f29 1) 0 = some (some 10, .move (.tmp 0), 56, none) := by kernel_rfl
theorem p29_1_1 : pj (regOf Try.f29 1) 1 = some (some 11, .move (.tmp 1), 3, none) := by kernel_rfl
theorem p29_1_2 : pj (regOf Try.f29 1) 2 = some (some 12, .move (.tmp 2), 3, none) := by kernel_rfl
theorem p29_1_3 : pj (regOf Try.f29 1) 3 = some (some 13, .call { callee := .value (.func 53), args := #[.tmp 10, .tmp 11, .tmp 12], argTypes := #[56, 3, 3] }, 23, none) := by kernel_rfl
theorem cl53 : callable Try.f53 = true := by kernel_rfl
theorem p29_1_4 : pj (regOf Try.f29 1) 4 = some (some 9, .assign (.tmp 13), 23, none) := by kernel_rfl
theorem p29_2_0 : pj (regOf Try.f29 2) 0 = some (some 14, .move (.tmp 9), 23, none) := by kernel_rfl
theorem p29_2_1 : pj (regOf Try.f29 2) 1 = some (some 15, .binOp .neq 23 (.tmp 14) (.const (.int .i64 0)) 23, 4, none) := by kernel_rfl
theorem p29_4_0 : pj (regOf Try.f29 4) 0 = some (some 17, .move (.tmp 3), 3, none) := by kernel_rfl
theorem p29_4_1 : pj (regOf Try.f29 4) 1 = some (some 18, .binOp .lss 3 (.tmp 17) (.const (.int .i64 128)) 3, 4, none) := by kernel_rfl
theorem p29_4_2 : pj (regOf Try.f29 4) 2 = some (some 19, .move (.tmp 18), 4, none) := by kernel_rfl
theorem p29_4_3 : pj (regOf Try.f29 4) 3 = some (some 20, .move (.tmp 3), 3, some (2, false)) := by kernel_rfl
theorem g29_4_2 : dstOf (regOf Try.f29 4) 2 = some 19 := by kernel_rfl
theorem p29_4_4 : pj (regOf Try.f29 4) 4 = some (some 21, .binOp .geq 3 (.tmp 20) (.const (.int .i64 65535)) 3, 4, some (2, false)) := by kernel_rfl
theorem p29_4_5 : pj (regOf Try.f29 4) 5 = some (some 22, .pick (.tmp 19) (.const (.bool true)) (.tmp 21), 4, none) := by kernel_rfl
theorem p29_5_0 : pj (regOf Try.f29 5) 0 = some (some 8, .assign (.const (.int .i64 1)), 23, none) := by kernel_rfl
theorem ns29_6 : Region.noSelect (regOf Try.f29 6) = true := by kernel_rfl
theorem p29_6_0 : pj (regOf Try.f29 6) 0 = some (some 23, .move (.tmp 0), 56, none) := by kernel_rfl
theorem p29_6_1 : pj (regOf Try.f29 6) 1 = some (some 24, .nilCheck (.tmp 23), 0, none) := by kernel_rfl
theorem p29_6_2 : pj (regOf Try.f29 6) 2 = some (some 25, .fieldAddr 83 (.tmp 24) 1, 0, none) := by kernel_rfl
theorem tS81 : (Try.prog.info? 81).map (·.size) = some 1 := by kernel_rfl
theorem p29_6_3 : pj (regOf Try.f29 6) 3 = some (some 26, .load 81 (.tmp 25), 81, none) := by kernel_rfl
theorem tA81 : (Try.prog.underlying 81).map aggD = some false := by kernel_rfl
theorem p29_6_4 : pj (regOf Try.f29 6) 4 = some (some 27, .move (.tmp 1), 3, none) := by kernel_rfl
theorem p29_6_5 : pj (regOf Try.f29 6) 5 = some (some 28, .move (.tmp 2), 3, none) := by kernel_rfl
theorem p29_6_7 : pj (regOf Try.f29 6) 7 = some (some 30, .move (.tmp 3), 3, none) := by kernel_rfl
theorem p29_6_6 : pj (regOf Try.f29 6) 6 = some (some 29, .call { callee := .value (.func 54), args := #[.tmp 27, .tmp 28], argTypes := #[3, 3] }, 86, none) := by kernel_rfl
theorem cl54 : callable Try.f54 = true := by kernel_rfl
theorem p29_6_8 : pj (regOf Try.f29 6) 8 = some (none, .mapUpdate 81 (.tmp 26) (.tmp 29) (.tmp 30), 0, none) := by kernel_rfl
theorem mk86 : flat Try.prog 9 86 = some [some .i64, some .i64] := Eq.trans (Mp.flat_pair Try.underlying86 Try.underlying3 (by kernel_rfl) (by kernel_rfl)) rfl
theorem p29_7_0 : pj (regOf Try.f29 7) 0 = some (some 8, .assign (.const (.int .i64 0)), 23, none) := by kernel_rfl
theorem p29_3_0 : pj (regOf Try.f29 3) 0 = some (some 16, .move (.tmp 9), 23, none) := by kernel_rfl
theorem p29_3_1 : pj (regOf Try.f29 3) 1 = some (some 8, .assign (.tmp 16), 23, none) := by kernel_rfl
set_option maxHeartbeats 4000000 in
theorem set_any (g gm ck : Nat) (es : Array MapEntry) (f : Int → Int → Option Int) (n : Int) (x y c : Int) (w : World) (hg : w.heap[g]? = some (.cells #[.int .i64 n, .map (some gm)] 83 (0, 0))) (hm : w.heap[gm]? = some (.map es ck)) (hF : Mp.MapF es f) (hne : g ≠ gm) : Calls Try.prog 29 #[.pointer (some ⟨g, 0, none⟩), .int .i64 x, .int .i64 y, .int .i64 c] w fun e w' => ∃ es' ck', e = .returned (.int .i64 (bif setB n x y c then 0 else 1)) ∧ Mp.MapF es' (lkS n f x y c) ∧ w'.heap[gm]? = some (.map es' ck') ∧ Kp w w' (fun k => k = gm) := by
  have K_0 := Kp.refl w (fun k => k = gm)
  have B_g := hg
  have B_gm := hm
  have n_g_gm := hne
  refine enter (args := [Value.pointer (some ⟨g, 0, none⟩), Value.int .i64 x, Value.int .i64 y, Value.int .i64 c]) (n := 31) Try.func29 body29 rfl rfl rfl ?_
  intro a hE
  refine c_reg R29_0_l ?_
  refine q0 p29_0_0 hE (st_assign rfl) ?_
  clear hE a; intro a hE
  refine p_nil ?_
  refine x_norm ?_
  refine wp_seq ?_
  rcases Decidable.em (bothB n x y = true) with hBO | hBO
  ·
    refine c_reg R29_1_l ?_
    refine q0 p29_1_0 hE (st_move rfl) ?_
    clear hE a; intro a hE
    refine q0 p29_1_1 hE (st_move rfl) ?_
    clear hE a; intro a hE
    refine q0 p29_1_2 hE (st_move rfl) ?_
    clear hE a; intro a hE
    refine p_cons (s_call (xs := [Operand.tmp 10, Operand.tmp 11, Operand.tmp 12]) (args := [Value.pointer (some ⟨g, 0, none⟩), Value.int .i64 x, Value.int .i64 y]) p29_1_3 hE wn_none rfl rfl Try.func53 cl53 (both_ok g n x y (Value.map (some gm)) hBO _ B_g) ?_)
    rintro e w1 ⟨rfl, hk⟩
    replace B_g := kp_blk B_g hk (fun h => h)
    replace B_gm := kp_blk B_gm hk (fun h => h)
    replace K_0 := K_0.then_ hk (fun _ h => h.elim)
    refine ⟨_, rfl, ?_⟩
    clear hE a; intro a hE
    refine q0 p29_1_4 hE (st_assign rfl) ?_
    clear hE a; intro a hE
    refine p_nil ?_
    refine x_norm ?_
    refine c_reg R29_2_l ?_
    refine q0 p29_2_0 hE (st_move rfl) ?_
    clear hE a; intro a hE
    refine q0 p29_2_1 hE (st_neq (b := false) rfl rfl (by decide)) ?_
    clear hE a; intro a hE
    refine p_nil ?_
    refine x_norm ?_
    refine c_cond (t := false) hE rfl ?_
    refine wp_skip ?_
    refine x_norm ?_
    refine wp_seq ?_
    rcases Decidable.em (c < 128) with hC1 | hC1
    ·
      refine c_reg R29_4_l ?_
      refine q0 p29_4_0 hE (st_move rfl) ?_
      clear hE a; intro a hE
      refine q0 p29_4_1 hE (st_lss (b := true) rfl rfl (decide_eq_true hC1)) ?_
      clear hE a; intro a hE
      refine q0 p29_4_2 hE (st_move rfl) ?_
      clear hE a; intro a hE
      refine p_cons (s_skip p29_4_3 hE (wn_some g29_4_2 rfl rfl) rfl ?_)
      clear hE a; intro a hE
      refine p_cons (s_skip p29_4_4 hE (wn_some g29_4_2 rfl rfl) rfl ?_)
      clear hE a; intro a hE
      refine q0 p29_4_5 hE (st_pick rfl rfl) ?_
      clear hE a; intro a hE
      refine p_nil ?_
      refine x_norm ?_
      refine c_cond (t := true) hE rfl ?_
      refine c_reg R29_5_l ?_
      refine q0 p29_5_0 hE (st_assign rfl) ?_
      clear hE a; intro a hE
      refine p_nil ?_
      refine x_norm ?_
      refine wp_ret ?_
      refine x_ret ?_
      refine ret_one (v := Value.int .i64 1) rfl hE (.tmp rfl .nil) ?_
      have hst : setB n x y c = false := by unfold setB; rw [hBO, decide_eq_false (by omega)]; rfl
      exact ⟨es, ck, by rw [hst]; rfl, by unfold lkS; rw [hst]; exact hF, B_gm, K_0⟩
    ·
      rcases Decidable.em (65535 ≤ c) with hC2 | hC2
      ·
        refine c_reg R29_4_l ?_
        refine q0 p29_4_0 hE (st_move rfl) ?_
        clear hE a; intro a hE
        refine q0 p29_4_1 hE (st_lss (b := false) rfl rfl (decide_eq_false hC1)) ?_
        clear hE a; intro a hE
        refine q0 p29_4_2 hE (st_move rfl) ?_
        clear hE a; intro a hE
        refine p_cons (s_still p29_4_3 hE (wn_some g29_4_2 rfl rfl) rfl (st_move rfl) ?_)
        clear hE a; intro a hE
        refine p_cons (s_still p29_4_4 hE (wn_some g29_4_2 rfl rfl) rfl (st_geq (b := true) rfl rfl (decide_eq_true hC2)) ?_)
        clear hE a; intro a hE
        refine q0 p29_4_5 hE (st_pick rfl rfl) ?_
        clear hE a; intro a hE
        refine p_nil ?_
        refine x_norm ?_
        refine c_cond (t := true) hE rfl ?_
        refine c_reg R29_5_l ?_
        refine q0 p29_5_0 hE (st_assign rfl) ?_
        clear hE a; intro a hE
        refine p_nil ?_
        refine x_norm ?_
        refine wp_ret ?_
        refine x_ret ?_
        refine ret_one (v := Value.int .i64 1) rfl hE (.tmp rfl .nil) ?_
        have hst : setB n x y c = false := by unfold setB; rw [hBO, decide_eq_false (by omega)]; rfl
        exact ⟨es, ck, by rw [hst]; rfl, by unfold lkS; rw [hst]; exact hF, B_gm, K_0⟩
      ·
        refine c_reg R29_4_l ?_
        refine q0 p29_4_0 hE (st_move rfl) ?_
        clear hE a; intro a hE
        refine q0 p29_4_1 hE (st_lss (b := false) rfl rfl (decide_eq_false hC1)) ?_
        clear hE a; intro a hE
        refine q0 p29_4_2 hE (st_move rfl) ?_
        clear hE a; intro a hE
        refine p_cons (s_still p29_4_3 hE (wn_some g29_4_2 rfl rfl) rfl (st_move rfl) ?_)
        clear hE a; intro a hE
        refine p_cons (s_still p29_4_4 hE (wn_some g29_4_2 rfl rfl) rfl (st_geq (b := false) rfl rfl (decide_eq_false hC2)) ?_)
        clear hE a; intro a hE
        refine q0 p29_4_5 hE (st_pick rfl rfl) ?_
        clear hE a; intro a hE
        refine p_nil ?_
        refine x_norm ?_
        refine c_cond (t := false) hE rfl ?_
        refine wp_skip ?_
        refine x_norm ?_
        refine c_drawS (S := fun W => W.heap[g]? = some (.cells #[Value.int .i64 n, Value.map (some gm)] 83 (0, 0)) ∧ True) rfl rfl (listed := #[false, false, false, false, false, false, false, false, false]) rfl ?_
        intro w2 hh hk
        replace B_g := kp_blk B_g hk (fun h => h)
        replace B_gm := kp_blk B_gm hk (fun h => h)
        replace K_0 := K_0.then_ hk (fun _ h => h.elim)
        clear hh hk
        refine d_take (v := Value.pointer (some ⟨g, 0, none⟩)) p29_6_0 ns29_6 (by kernel_rfl) (by kernel_rfl) (fun _ _ _ h => h) hE wn_none rfl ⟨B_g, trivial⟩ (fun W hS => (st_move rfl)) rfl ?_
        clear hE a; intro a hE
        refine d_take (v := Value.pointer (some ⟨g, 0, none⟩)) p29_6_1 ns29_6 (by kernel_rfl) (by kernel_rfl) (fun _ _ _ h => h) hE wn_none rfl ⟨B_g, trivial⟩ (fun W hS => (st_nil rfl)) rfl ?_
        clear hE a; intro a hE
        refine d_take (v := Value.pointer (some ⟨g, 1, none⟩)) p29_6_2 ns29_6 (by kernel_rfl) (by kernel_rfl) (fun _ _ _ h => h) hE wn_none rfl ⟨B_g, trivial⟩ (fun W hS => (st_fieldAddr Try.underlying83 rfl tS81 rfl rfl)) rfl ?_
        clear hE a; intro a hE
        refine d_take (v := Value.map (some gm)) p29_6_3 ns29_6 (by kernel_rfl) (by kernel_rfl) (fun _ _ _ h => h) hE wn_none rfl ⟨B_g, trivial⟩ (fun W hS => (st_load1 tA81 rfl ((blk_cell hS.1 1).trans rfl))) rfl ?_
        clear hE a; intro a hE
        refine d_take (v := Value.int .i64 x) p29_6_4 ns29_6 (by kernel_rfl) (by kernel_rfl) (fun _ _ _ h => h) hE wn_none rfl ⟨B_g, trivial⟩ (fun W hS => (st_move rfl)) rfl ?_
        clear hE a; intro a hE
        refine d_take (v := Value.int .i64 y) p29_6_5 ns29_6 (by kernel_rfl) (by kernel_rfl) (fun _ _ _ h => h) hE wn_none rfl ⟨B_g, trivial⟩ (fun W hS => (st_move rfl)) rfl ?_
        clear hE a; intro a hE
        refine d_take (v := Value.int .i64 c) p29_6_7 ns29_6 (by kernel_rfl) (by kernel_rfl) (fun _ _ _ h => h) hE wn_none rfl ⟨B_g, trivial⟩ (fun W hS => (st_move rfl)) rfl ?_
        clear hE a; intro a hE
        refine d_one (by kernel_rfl) rfl (s_call (xs := [Operand.tmp 27, Operand.tmp 28]) (args := [Value.int .i64 x, Value.int .i64 y]) p29_6_6 hE wn_none rfl rfl Try.func54 cl54 (of_any x y _) ?_)
        rintro e w3 ⟨rfl, hk⟩
        replace B_g := kp_blk B_g hk (fun h => h)
        replace B_gm := kp_blk B_gm hk (fun h => h)
        replace K_0 := K_0.then_ hk (fun _ h => h.elim)
        refine ⟨_, rfl, ?_⟩
        clear hE a; intro a hE
        refine ⟨⟨B_g, trivial⟩, ?_⟩
        refine d_one (by kernel_rfl) rfl (Mp.s_mapUpdate p29_6_8 hE wn_none Try.underlying81 Try.underlying86 Try.underlying3 tS3 mk86 (by kernel_rfl) rfl rfl rfl hF B_gm ?_)
        intro esm5 ckm5 w4 MF_m5 B_gm' hk
        replace B_g := kp_blk B_g hk n_g_gm
        replace K_0 := K_0.then_ hk (fun k h => by rw [show k = gm from h]; exact Or.inl rfl)
        replace B_gm := B_gm'
        clear hk
        refine ⟨⟨B_g, trivial⟩, ?_⟩
        refine d_end (by kernel_rfl) ?_
        refine x_norm ?_
        refine c_reg R29_7_l ?_
        refine q0 p29_7_0 hE (st_assign rfl) ?_
        clear hE a; intro a hE
        refine p_nil ?_
        refine x_norm ?_
        refine wp_ret ?_
        refine ret_one (v := Value.int .i64 0) rfl hE (.tmp rfl .nil) ?_
        have hst : setB n x y c = true := by unfold setB; rw [hBO, decide_eq_true ⟨by omega, by omega⟩]; rfl
        exact ⟨esm5, ckm5, by rw [hst]; rfl, by unfold lkS; rw [hst]; exact MF_m5, B_gm, K_0⟩
  ·
    refine c_reg R29_1_l ?_
    refine q0 p29_1_0 hE (st_move rfl) ?_
    clear hE a; intro a hE
    refine q0 p29_1_1 hE (st_move rfl) ?_
    clear hE a; intro a hE
    refine q0 p29_1_2 hE (st_move rfl) ?_
    clear hE a; intro a hE
    refine p_cons (s_call (xs := [Operand.tmp 10, Operand.tmp 11, Operand.tmp 12]) (args := [Value.pointer (some ⟨g, 0, none⟩), Value.int .i64 x, Value.int .i64 y]) p29_1_3 hE wn_none rfl rfl Try.func53 cl53 (both_no g n x y (Value.map (some gm)) (by simpa using hBO) _ B_g) ?_)
    rintro e w6 ⟨rfl, hk⟩
    replace B_g := kp_blk B_g hk (fun h => h)
    replace B_gm := kp_blk B_gm hk (fun h => h)
    replace K_0 := K_0.then_ hk (fun _ h => h.elim)
    refine ⟨_, rfl, ?_⟩
    clear hE a; intro a hE
    refine q0 p29_1_4 hE (st_assign rfl) ?_
    clear hE a; intro a hE
    refine p_nil ?_
    refine x_norm ?_
    refine c_reg R29_2_l ?_
    refine q0 p29_2_0 hE (st_move rfl) ?_
    clear hE a; intro a hE
    refine q0 p29_2_1 hE (st_neq (b := true) rfl rfl (by decide)) ?_
    clear hE a; intro a hE
    refine p_nil ?_
    refine x_norm ?_
    refine c_cond (t := true) hE rfl ?_
    refine c_reg R29_3_l ?_
    refine q0 p29_3_0 hE (st_move rfl) ?_
    clear hE a; intro a hE
    refine q0 p29_3_1 hE (st_assign rfl) ?_
    clear hE a; intro a hE
    refine p_nil ?_
    refine x_norm ?_
    refine wp_ret ?_
    refine x_ret ?_
    refine ret_one (v := Value.int .i64 1) rfl hE (.tmp rfl .nil) ?_
    have hst : setB n x y c = false := by unfold setB; rw [show bothB n x y = false by simpa using hBO]; rfl
    exact ⟨es, ck, by rw [hst]; rfl, by unfold lkS; rw [hst]; exact hF, B_gm, K_0⟩
theorem R32_0_l : List.range (regOf Try.f32 0).size = [0, 1] := by kernel_rfl
theorem R32_1_l : List.range (regOf Try.f32 1).size = [0, 1, 2] := by kernel_rfl
theorem R32_2_l : List.range (regOf Try.f32 2).size = [0, 1] := by kernel_rfl
theorem R32_3_l : List.range (regOf Try.f32 3).size = [0, 1, 2, 3, 4, 5, 6, 7, 8, 9, 10] := by kernel_rfl
theorem R32_4_l : List.range (regOf Try.f32 4).size = [0, 1] := by kernel_rfl
theorem R32_5_l : List.range (regOf Try.f32 5).size = [0, 1, 2, 3, 4, 5, 6, 7, 8, 9, 10, 11, 12] := by kernel_rfl
theorem R32_6_l : List.range (regOf Try.f32 6).size = [0, 1] := by kernel_rfl
theorem R32_7_l : List.range (regOf Try.f32 7).size = [0, 1] := by kernel_rfl
theorem R32_8_l : List.range (regOf Try.f32 8).size = [0, 1, 2] := by kernel_rfl
theorem body32 : Try.f32.body = some (.seq (.region 0 (regOf Try.f32 0) false) (.seq (.block 0 (.seq (.region 1 (regOf Try.f32 1) false) (.cond (Operand.tmp 10) (.seq (.region 2 (regOf Try.f32 2) false) (.ret)) (.seq (.region 3 (regOf Try.f32 3) false) (.cond (Operand.tmp 13) (.seq (.region 4 (regOf Try.f32 4) false) (.ret)) (.skip)))))) (.seq (.region 5 (regOf Try.f32 5) true) (.seq (.seq (.region 6 (regOf Try.f32 6) false) (.cond (Operand.tmp 36) (.seq (.region 7 (regOf Try.f32 7) false) (.ret)) (.skip))) (.seq (.region 8 (regOf Try.f32 8) false) (.ret)))))) := by kernel_rfl
theorem p32_0_0 : pj (regOf Try.f32 0) 0 = some (some 6, .assign (.const (.int .i64 0)), 3, none) := by kernel_rfl
theorem p32_0_1 : pj (regOf Try.f32 0) 1 = some (some 7, .assign (.const (.int .i64 0)), 23, none) := by kernel_rfl
theorem p32_1_0 : pj (regOf Try.f32 1) 0 = some (some 11, .move (.tmp 0), 56, none) := by kernel_rfl
theorem p32_1_1 : pj (regOf Try.f32 1) 1 = some (some 12, .binOp .eql 56 (.tmp 11) (.const (.pointer none)) 56, 4, none) := by kernel_rfl
theorem p32_1_2 : pj (regOf Try.f32 1) 2 = some (some 10, .assign (.tmp 12), 4, none) := by kernel_rfl
theorem p32_3_0 : pj (regOf Try.f32 3) 0 = some (some 14, .move (.tmp 0), 56, none) := by kernel_rfl
theorem p32_3_1 : pj (regOf Try.f32 3) 1 = some (some 15, .move (.tmp 1), 3, none) := by kernel_rfl
theorem p32_3_2 : pj (regOf Try.f32 3) 2 = some (some 16, .call { callee := .value (.func 55), args := #[.tmp 14, .tmp 15], argTypes := #[56, 3] }, 4, none) := by kernel_rfl
theorem p32_3_3 : pj (regOf Try.f32 3) 3 = some (some 17, .unOp .not 4 (.tmp 16), 4, none) := by kernel_rfl
theorem p32_3_4 : pj (regOf Try.f32 3) 4 = some (some 18, .move (.tmp 17), 4, none) := by kernel_rfl
theorem p32_3_5 : pj (regOf Try.f32 3) 5 = some (some 19, .move (.tmp 0), 56, some (4, false)) := by kernel_rfl
theorem g32_3_4 : dstOf (regOf Try.f32 3) 4 = some 18 := by kernel_rfl
theorem p32_3_6 : pj (regOf Try.f32 3) 6 = some (some 20, .move (.tmp 2), 3, some (4, false)) := by kernel_rfl
theorem p32_3_7 : pj (regOf Try.f32 3) 7 = some (some 21, .call { callee := .value (.func 55), args := #[.tmp 19, .tmp 20], argTypes := #[56, 3] }, 4, some (4, false)) := by kernel_rfl
theorem p32_3_8 : pj (regOf Try.f32 3) 8 = some (some 22, .unOp .not 4 (.tmp 21), 4, some (4, false)) := by kernel_rfl
theorem p32_3_9 : pj (regOf Try.f32 3) 9 = some (some 23, .pick (.tmp 18) (.const (.bool true)) (.tmp 22), 4, none) := by kernel_rfl
theorem p32_3_10 : pj (regOf Try.f32 3) 10 = some (some 13, .assign (.tmp 23), 4, none) := by kernel_rfl
theorem ns32_5 : Region.noSelect (regOf Try.f32 5) = true := by kernel_rfl
theorem p32_5_0 : pj (regOf Try.f32 5) 0 = some (some 25, .move (.tmp 0), 56, none) := by kernel_rfl
theorem p32_5_1 : pj (regOf Try.f32 5) 1 = some (some 26, .nilCheck (.tmp 25), 0, none) := by kernel_rfl
theorem p32_5_2 : pj (regOf Try.f32 5) 2 = some (some 27, .fieldAddr 83 (.tmp 26) 1, 0, none) := by kernel_rfl
theorem p32_5_3 : pj (regOf Try.f32 5) 3 = some (some 28, .load 81 (.tmp 27), 81, none) := by kernel_rfl
theorem p32_5_4 : pj (regOf Try.f32 5) 4 = some (some 29, .move (.tmp 1), 3, none) := by kernel_rfl
theorem p32_5_5 : pj (regOf Try.f32 5) 5 = some (some 30, .move (.tmp 2), 3, none) := by kernel_rfl
theorem p32_5_6 : pj (regOf Try.f32 5) 6 = some (some 31, .call { callee := .value (.func 54), args := #[.tmp 29, .tmp 30], argTypes := #[3, 3] }, 86, none) := by kernel_rfl
theorem p32_5_7 : pj (regOf Try.f32 5) 7 = some (some 32, .lookup 81 (.tmp 28) (.tmp 31) true, 88, none) := by kernel_rfl
theorem tZ3 : (Try.prog.info? 3).bind (·.zero) = some (Value.int .i64 0) := by kernel_rfl
theorem p32_5_8 : pj (regOf Try.f32 5) 8 = some (some 24, .move (.tmp 32), 88, none) := by kernel_rfl
theorem p32_5_9 : pj (regOf Try.f32 5) 9 = some (some 33, .extract (.tmp 24) 0, 3, none) := by kernel_rfl
theorem p32_5_10 : pj (regOf Try.f32 5) 10 = some (some 34, .extract (.tmp 24) 1, 4, none) := by kernel_rfl
theorem p32_5_11 : pj (regOf Try.f32 5) 11 = some (some 8, .assign (.tmp 33), 3, none) := by kernel_rfl
theorem p32_5_12 : pj (regOf Try.f32 5) 12 = some (some 9, .assign (.tmp 34), 4, none) := by kernel_rfl
theorem p32_6_0 : pj (regOf Try.f32 6) 0 = some (some 35, .move (.tmp 9), 4, none) := by kernel_rfl
theorem p32_6_1 : pj (regOf Try.f32 6) 1 = some (some 36, .unOp .not 4 (.tmp 35), 4, none) := by kernel_rfl
theorem p32_8_0 : pj (regOf Try.f32 8) 0 = some (some 37, .move (.tmp 8), 3, none) := by kernel_rfl
theorem p32_8_1 : pj (regOf Try.f32 8) 1 = some (some 6, .assign (.tmp 37), 3, none) := by kernel_rfl
theorem p32_8_2 : pj (regOf Try.f32 8) 2 = some (some 7, .assign (.const (.int .i64 0)), 23, none) := by kernel_rfl
theorem p32_7_0 : pj (regOf Try.f32 7) 0 = some (some 6, .assign (.const (.int .i64 0)), 3, none) := by kernel_rfl
theorem p32_7_1 : pj (regOf Try.f32 7) 1 = some (some 7, .assign (.const (.int .i64 8)), 23, none) := by kernel_rfl
theorem p32_4_0 : pj (regOf Try.f32 4) 0 = some (some 6, .assign (.const (.int .i64 0)), 3, none) := by kernel_rfl
theorem p32_4_1 : pj (regOf Try.f32 4) 1 = some (some 7, .assign (.const (.int .i64 1)), 23, none) := by kernel_rfl
set_option maxHeartbeats 4000000 in
theorem cost_any (g gm ck : Nat) (es : Array MapEntry) (f : Int → Int → Option Int) (n : Int) (x y : Int) (w : World) (hg : w.heap[g]? = some (.cells #[.int .i64 n, .map (some gm)] 83 (0, 0))) (hm : w.heap[gm]? = some (.map es ck)) (hF : Mp.MapF es f) (hne : g ≠ gm) : Calls Try.prog 32 #[.pointer (some ⟨g, 0, none⟩), .int .i64 x, .int .i64 y] w fun e w' => e = .returned (.tuple #[.int .i64 (costP n f x y).1, .int .i64 (costP n f x y).2]) ∧ Kp w w' (fun _ => False) := by
  have K_0 := Kp.refl w (fun _ => False)
  have B_g := hg
  have B_gm := hm
  have n_g_gm := hne
  refine enter (args := [Value.pointer (some ⟨g, 0, none⟩), Value.int .i64 x, Value.int .i64 y]) (n := 38) Try.func32 body32 rfl rfl rfl ?_
  intro a hE
  refine c_reg R32_0_l ?_
  refine q0 p32_0_0 hE (st_assign rfl) ?_
  clear hE a; intro a hE
  refine q0 p32_0_1 hE (st_assign rfl) ?_
  clear hE a; intro a hE
  refine p_nil ?_
  refine x_norm ?_
  refine wp_seq ?_
  refine wp_block ?_
  refine c_reg R32_1_l ?_
  refine q0 p32_1_0 hE (st_move rfl) ?_
  clear hE a; intro a hE
  refine q0 p32_1_1 hE (st_eqlP (b := false) tP56 rfl rfl rfl) ?_
  clear hE a; intro a hE
  refine q0 p32_1_2 hE (st_assign rfl) ?_
  clear hE a; intro a hE
  refine p_nil ?_
  refine x_norm ?_
  refine c_cond (t := false) hE rfl ?_
  rcases Decidable.em (nodeB n x = true) with hNA | hNA
  ·
    rcases Decidable.em (nodeB n y = true) with hNB | hNB
    ·
      refine c_reg R32_3_l ?_
      refine q0 p32_3_0 hE (st_move rfl) ?_
      clear hE a; intro a hE
      refine q0 p32_3_1 hE (st_move rfl) ?_
      clear hE a; intro a hE
      refine p_cons (s_call (xs := [Operand.tmp 14, Operand.tmp 15]) (args := [Value.pointer (some ⟨g, 0, none⟩), Value.int .i64 x]) p32_3_2 hE wn_none rfl rfl Try.func55 cl55 (node_any g n x (Value.map (some gm)) true hNA _ B_g) ?_)
      rintro e w1 ⟨rfl, hk⟩
      replace B_g := kp_blk B_g hk (fun h => h)
      replace B_gm := kp_blk B_gm hk (fun h => h)
      replace K_0 := K_0.then_ hk (fun _ h => h.elim)
      refine ⟨_, rfl, ?_⟩
      clear hE a; intro a hE
      refine q0 p32_3_3 hE (st_not rfl rfl) ?_
      clear hE a; intro a hE
      refine q0 p32_3_4 hE (st_move rfl) ?_
      clear hE a; intro a hE
      refine p_cons (s_still p32_3_5 hE (wn_some g32_3_4 rfl rfl) rfl (st_move rfl) ?_)
      clear hE a; intro a hE
      refine p_cons (s_still p32_3_6 hE (wn_some g32_3_4 rfl rfl) rfl (st_move rfl) ?_)
      clear hE a; intro a hE
      refine p_cons (s_call (xs := [Operand.tmp 19, Operand.tmp 20]) (args := [Value.pointer (some ⟨g, 0, none⟩), Value.int .i64 y]) p32_3_7 hE (wn_some g32_3_4 rfl rfl) rfl rfl Try.func55 cl55 (node_any g n y (Value.map (some gm)) true hNB _ B_g) ?_)
      rintro e w2 ⟨rfl, hk⟩
      replace B_g := kp_blk B_g hk (fun h => h)
      replace B_gm := kp_blk B_gm hk (fun h => h)
      replace K_0 := K_0.then_ hk (fun _ h => h.elim)
      refine ⟨_, rfl, ?_⟩
      clear hE a; intro a hE
      refine p_cons (s_still p32_3_8 hE (wn_some g32_3_4 rfl rfl) rfl (st_not rfl rfl) ?_)
      clear hE a; intro a hE
      refine q0 p32_3_9 hE (st_pick rfl rfl) ?_
      clear hE a; intro a hE
      refine q0 p32_3_10 hE (st_assign rfl) ?_
      clear hE a; intro a hE
      refine p_nil ?_
      refine x_norm ?_
      refine c_cond (t := false) hE rfl ?_
      refine wp_skip ?_
      refine x_normB ?_
      refine x_norm ?_
      rcases Decidable.em ((f (min x y) (max x y)).isSome = true) with hHAS | hHAS
      ·
        obtain ⟨v, hv⟩ := Option.isSome_iff_exists.1 hHAS
        refine c_drawS (S := fun W => W.heap[g]? = some (.cells #[Value.int .i64 n, Value.map (some gm)] 83 (0, 0)) ∧ W.heap[gm]? = some (.map es ck) ∧ True) rfl rfl (listed := #[false, false, false, false, false, false, false, false, false, false, false, false, false]) rfl ?_
        intro w3 hh hk
        replace B_g := kp_blk B_g hk (fun h => h)
        replace B_gm := kp_blk B_gm hk (fun h => h)
        replace K_0 := K_0.then_ hk (fun _ h => h.elim)
        clear hh hk
        refine d_take (v := Value.pointer (some ⟨g, 0, none⟩)) p32_5_0 ns32_5 (by kernel_rfl) (by kernel_rfl) (fun _ _ _ h => h) hE wn_none rfl ⟨B_g, B_gm, trivial⟩ (fun W hS => (st_move rfl)) rfl ?_
        clear hE a; intro a hE
        refine d_take (v := Value.pointer (some ⟨g, 0, none⟩)) p32_5_1 ns32_5 (by kernel_rfl) (by kernel_rfl) (fun _ _ _ h => h) hE wn_none rfl ⟨B_g, B_gm, trivial⟩ (fun W hS => (st_nil rfl)) rfl ?_
        clear hE a; intro a hE
        refine d_take (v := Value.pointer (some ⟨g, 1, none⟩)) p32_5_2 ns32_5 (by kernel_rfl) (by kernel_rfl) (fun _ _ _ h => h) hE wn_none rfl ⟨B_g, B_gm, trivial⟩ (fun W hS => (st_fieldAddr Try.underlying83 rfl tS81 rfl rfl)) rfl ?_
        clear hE a; intro a hE
        refine d_take (v := Value.map (some gm)) p32_5_3 ns32_5 (by kernel_rfl) (by kernel_rfl) (fun _ _ _ h => h) hE wn_none rfl ⟨B_g, B_gm, trivial⟩ (fun W hS => (st_load1 tA81 rfl ((blk_cell hS.1 1).trans rfl))) rfl ?_
        clear hE a; intro a hE
        refine d_take (v := Value.int .i64 x) p32_5_4 ns32_5 (by kernel_rfl) (by kernel_rfl) (fun _ _ _ h => h) hE wn_none rfl ⟨B_g, B_gm, trivial⟩ (fun W hS => (st_move rfl)) rfl ?_
        clear hE a; intro a hE
        refine d_take (v := Value.int .i64 y) p32_5_5 ns32_5 (by kernel_rfl) (by kernel_rfl) (fun _ _ _ h => h) hE wn_none rfl ⟨B_g, B_gm, trivial⟩ (fun W hS => (st_move rfl)) rfl ?_
        clear hE a; intro a hE
        refine d_one (by kernel_rfl) rfl (s_call (xs := [Operand.tmp 29, Operand.tmp 30]) (args := [Value.int .i64 x, Value.int .i64 y]) p32_5_6 hE wn_none rfl rfl Try.func54 cl54 (of_any x y _) ?_)
        rintro e w4 ⟨rfl, hk⟩
        replace B_g := kp_blk B_g hk (fun h => h)
        replace B_gm := kp_blk B_gm hk (fun h => h)
        replace K_0 := K_0.then_ hk (fun _ h => h.elim)
        refine ⟨_, rfl, ?_⟩
        clear hE a; intro a hE
        refine ⟨⟨B_g, B_gm, trivial⟩, ?_⟩
        refine d_one (by kernel_rfl) rfl (s_still (v := Value.tuple #[Value.int .i64 v, Value.bool true]) p32_5_7 hE wn_none rfl (Mp.st_lookupS Try.underlying81 Try.underlying86 Try.underlying3 tS3 mk86 (by kernel_rfl) tZ3 rfl rfl hF B_gm hv) ?_)
        clear hE a; intro a hE
        refine ⟨⟨B_g, B_gm, trivial⟩, ?_⟩
        refine d_take (v := Value.tuple #[Value.int .i64 v, Value.bool true]) p32_5_8 ns32_5 (by kernel_rfl) (by kernel_rfl) (fun _ _ _ h => h) hE wn_none rfl ⟨B_g, B_gm, trivial⟩ (fun W hS => (st_move rfl)) rfl ?_
        clear hE a; intro a hE
        refine d_take (v := Value.int .i64 v) p32_5_9 ns32_5 (by kernel_rfl) (by kernel_rfl) (fun _ _ _ h => h) hE wn_none rfl ⟨B_g, B_gm, trivial⟩ (fun W hS => (st_extract rfl rfl)) rfl ?_
        clear hE a; intro a hE
        refine d_take (v := Value.bool true) p32_5_10 ns32_5 (by kernel_rfl) (by kernel_rfl) (fun _ _ _ h => h) hE wn_none rfl ⟨B_g, B_gm, trivial⟩ (fun W hS => (st_extract rfl rfl)) rfl ?_
        clear hE a; intro a hE
        refine d_take (v := Value.int .i64 v) p32_5_11 ns32_5 (by kernel_rfl) (by kernel_rfl) (fun _ _ _ h => h) hE wn_none rfl ⟨B_g, B_gm, trivial⟩ (fun W hS => (st_assign rfl)) rfl ?_
        clear hE a; intro a hE
        refine d_take (v := Value.bool true) p32_5_12 ns32_5 (by kernel_rfl) (by kernel_rfl) (fun _ _ _ h => h) hE wn_none rfl ⟨B_g, B_gm, trivial⟩ (fun W hS => (st_assign rfl)) rfl ?_
        clear hE a; intro a hE
        refine d_end (by kernel_rfl) ?_
        refine x_norm ?_
        refine wp_seq ?_
        refine c_reg R32_6_l ?_
        refine q0 p32_6_0 hE (st_move rfl) ?_
        clear hE a; intro a hE
        refine q0 p32_6_1 hE (st_not rfl rfl) ?_
        clear hE a; intro a hE
        refine p_nil ?_
        refine x_norm ?_
        refine c_cond (t := false) hE rfl ?_
        refine wp_skip ?_
        refine x_norm ?_
        refine c_reg R32_8_l ?_
        refine q0 p32_8_0 hE (st_move rfl) ?_
        clear hE a; intro a hE
        refine q0 p32_8_1 hE (st_assign rfl) ?_
        clear hE a; intro a hE
        refine q0 p32_8_2 hE (st_assign rfl) ?_
        clear hE a; intro a hE
        refine p_nil ?_
        refine x_norm ?_
        refine wp_ret ?_
        refine ret_list (rs := [.tmp 6, .tmp 7]) (vs := [Value.int .i64 v, Value.int .i64 0]) rfl hE (.tmp rfl (.tmp rfl .nil)) rfl ?_
        exact ⟨by rw [show costP n f x y = (v, 0) by unfold costP; rw [hNA, hNB, hv]; rfl], K_0⟩
      ·
        have hv := Option.not_isSome_iff_eq_none.1 hHAS
        refine c_drawS (S := fun W => W.heap[g]? = some (.cells #[Value.int .i64 n, Value.map (some gm)] 83 (0, 0)) ∧ W.heap[gm]? = some (.map es ck) ∧ True) rfl rfl (listed := #[false, false, false, false, false, false, false, false, false, false, false, false, false]) rfl ?_
        intro w5 hh hk
        replace B_g := kp_blk B_g hk (fun h => h)
        replace B_gm := kp_blk B_gm hk (fun h => h)
        replace K_0 := K_0.then_ hk (fun _ h => h.elim)
        clear hh hk
        refine d_take (v := Value.pointer (some ⟨g, 0, none⟩)) p32_5_0 ns32_5 (by kernel_rfl) (by kernel_rfl) (fun _ _ _ h => h) hE wn_none rfl ⟨B_g, B_gm, trivial⟩ (fun W hS => (st_move rfl)) rfl ?_
        clear hE a; intro a hE
        refine d_take (v := Value.pointer (some ⟨g, 0, none⟩)) p32_5_1 ns32_5 (by kernel_rfl) (by kernel_rfl) (fun _ _ _ h => h) hE wn_none rfl ⟨B_g, B_gm, trivial⟩ (fun W hS => (st_nil rfl)) rfl ?_
        clear hE a; intro a hE
        refine d_take (v := Value.pointer (some ⟨g, 1, none⟩)) p32_5_2 ns32_5 (by kernel_rfl) (by kernel_rfl) (fun _ _ _ h => h) hE wn_none rfl ⟨B_g, B_gm, trivial⟩ (fun W hS => (st_fieldAddr Try.underlying83 rfl tS81 rfl rfl)) rfl ?_
        clear hE a; intro a hE
        refine d_take (v := Value.map (some gm)) p32_5_3 ns32_5 (by kernel_rfl) (by kernel_rfl) (fun _ _ _ h => h) hE wn_none rfl ⟨B_g, B_gm, trivial⟩ (fun W hS => (st_load1 tA81 rfl ((blk_cell hS.1 1).trans rfl))) rfl ?_
        clear hE a; intro a hE
        refine d_take (v := Value.int .i64 x) p32_5_4 ns32_5 (by kernel_rfl) (by kernel_rfl) (fun _ _ _ h => h) hE wn_none rfl ⟨B_g, B_gm, trivial⟩ (fun W hS => (st_move rfl)) rfl ?_
        clear hE a; intro a hE
        refine d_take (v := Value.int .i64 y) p32_5_5 ns32_5 (by kernel_rfl) (by kernel_rfl) (fun _ _ _ h => h) hE wn_none rfl ⟨B_g, B_gm, trivial⟩ (fun W hS => (st_move rfl)) rfl ?_
        clear hE a; intro a hE
        refine d_one (by kernel_rfl) rfl (s_call (xs := [Operand.tmp 29, Operand.tmp 30]) (args := [Value.int .i64 x, Value.int .i64 y]) p32_5_6 hE wn_none rfl rfl Try.func54 cl54 (of_any x y _) ?_)
        rintro e w6 ⟨rfl, hk⟩
        replace B_g := kp_blk B_g hk (fun h => h)
        replace B_gm := kp_blk B_gm hk (fun h => h)
        replace K_0 := K_0.then_ hk (fun _ h => h.elim)
        refine ⟨_, rfl, ?_⟩
        clear hE a; intro a hE
        refine ⟨⟨B_g, B_gm, trivial⟩, ?_⟩
        refine d_one (by kernel_rfl) rfl (s_still (v := Value.tuple #[Value.int .i64 0, Value.bool false]) p32_5_7 hE wn_none rfl (Mp.st_lookupN Try.underlying81 Try.underlying86 Try.underlying3 tS3 mk86 (by kernel_rfl) tZ3 rfl rfl hF B_gm hv) ?_)
        clear hE a; intro a hE
        refine ⟨⟨B_g, B_gm, trivial⟩, ?_⟩
        refine d_take (v := Value.tuple #[Value.int .i64 0, Value.bool false]) p32_5_8 ns32_5 (by kernel_rfl) (by kernel_rfl) (fun _ _ _ h => h) hE wn_none rfl ⟨B_g, B_gm, trivial⟩ (fun W hS => (st_move rfl)) rfl ?_
        clear hE a; intro a hE
        refine d_take (v := Value.int .i64 0) p32_5_9 ns32_5 (by kernel_rfl) (by kernel_rfl) (fun _ _ _ h => h) hE wn_none rfl ⟨B_g, B_gm, trivial⟩ (fun W hS => (st_extract rfl rfl)) rfl ?_
        clear hE a; intro a hE
        refine d_take (v := Value.bool false) p32_5_10 ns32_5 (by kernel_rfl) (by kernel_rfl) (fun _ _ _ h => h) hE wn_none rfl ⟨B_g, B_gm, trivial⟩ (fun W hS => (st_extract rfl rfl)) rfl ?_
        clear hE a; intro a hE
        refine d_take (v := Value.int .i64 0) p32_5_11 ns32_5 (by kernel_rfl) (by kernel_rfl) (fun _ _ _ h => h) hE wn_none rfl ⟨B_g, B_gm, trivial⟩ (fun W hS => (st_assign rfl)) rfl ?_
        clear hE a; intro a hE
        refine d_take (v := Value.bool false) p32_5_12 ns32_5 (by kernel_rfl) (by kernel_rfl) (fun _ _ _ h => h) hE wn_none rfl ⟨B_g, B_gm, trivial⟩ (fun W hS => (st_assign rfl)) rfl ?_
        clear hE a; intro a hE
        refine d_end (by kernel_rfl) ?_
        refine x_norm ?_
        refine wp_seq ?_
        refine c_reg R32_6_l ?_
        refine q0 p32_6_0 hE (st_move rfl) ?_
        clear hE a; intro a hE
        refine q0 p32_6_1 hE (st_not rfl rfl) ?_
        clear hE a; intro a hE
        refine p_nil ?_
        refine x_norm ?_
        refine c_cond (t := true) hE rfl ?_
        refine c_reg R32_7_l ?_
        refine q0 p32_7_0 hE (st_assign rfl) ?_
        clear hE a; intro a hE
        refine q0 p32_7_1 hE (st_assign rfl) ?_
        clear hE a; intro a hE
        refine p_nil ?_
        refine x_norm ?_
        refine wp_ret ?_
        refine x_ret ?_
        refine ret_list (rs := [.tmp 6, .tmp 7]) (vs := [Value.int .i64 0, Value.int .i64 8]) rfl hE (.tmp rfl (.tmp rfl .nil)) rfl ?_
        exact ⟨by rw [show costP n f x y = (0, 8) by unfold costP; rw [hNA, hNB, hv]; rfl], K_0⟩
    ·
      refine c_reg R32_3_l ?_
      refine q0 p32_3_0 hE (st_move rfl) ?_
      clear hE a; intro a hE
      refine q0 p32_3_1 hE (st_move rfl) ?_
      clear hE a; intro a hE
      refine p_cons (s_call (xs := [Operand.tmp 14, Operand.tmp 15]) (args := [Value.pointer (some ⟨g, 0, none⟩), Value.int .i64 x]) p32_3_2 hE wn_none rfl rfl Try.func55 cl55 (node_any g n x (Value.map (some gm)) true hNA _ B_g) ?_)
      rintro e w7 ⟨rfl, hk⟩
      replace B_g := kp_blk B_g hk (fun h => h)
      replace B_gm := kp_blk B_gm hk (fun h => h)
      replace K_0 := K_0.then_ hk (fun _ h => h.elim)
      refine ⟨_, rfl, ?_⟩
      clear hE a; intro a hE
      refine q0 p32_3_3 hE (st_not rfl rfl) ?_
      clear hE a; intro a hE
      refine q0 p32_3_4 hE (st_move rfl) ?_
      clear hE a; intro a hE
      refine p_cons (s_still p32_3_5 hE (wn_some g32_3_4 rfl rfl) rfl (st_move rfl) ?_)
      clear hE a; intro a hE
      refine p_cons (s_still p32_3_6 hE (wn_some g32_3_4 rfl rfl) rfl (st_move rfl) ?_)
      clear hE a; intro a hE
      refine p_cons (s_call (xs := [Operand.tmp 19, Operand.tmp 20]) (args := [Value.pointer (some ⟨g, 0, none⟩), Value.int .i64 y]) p32_3_7 hE (wn_some g32_3_4 rfl rfl) rfl rfl Try.func55 cl55 (node_any g n y (Value.map (some gm)) false (by simpa using hNB) _ B_g) ?_)
      rintro e w8 ⟨rfl, hk⟩
      replace B_g := kp_blk B_g hk (fun h => h)
      replace B_gm := kp_blk B_gm hk (fun h => h)
      replace K_0 := K_0.then_ hk (fun _ h => h.elim)
      refine ⟨_, rfl, ?_⟩
      clear hE a; intro a hE
      refine p_cons (s_still p32_3_8 hE (wn_some g32_3_4 rfl rfl) rfl (st_not rfl rfl) ?_)
      clear hE a; intro a hE
      refine q0 p32_3_9 hE (st_pick rfl rfl) ?_
      clear hE a; intro a hE
      refine q0 p32_3_10 hE (st_assign rfl) ?_
      clear hE a; intro a hE
      refine p_nil ?_
      refine x_norm ?_
      refine c_cond (t := true) hE rfl ?_
      refine c_reg R32_4_l ?_
      refine q0 p32_4_0 hE (st_assign rfl) ?_
      clear hE a; intro a hE
      refine q0 p32_4_1 hE (st_assign rfl) ?_
      clear hE a; intro a hE
      refine p_nil ?_
      refine x_norm ?_
      refine wp_ret ?_
      refine x_retB ?_
      refine x_ret ?_
      refine ret_list (rs := [.tmp 6, .tmp 7]) (vs := [Value.int .i64 0, Value.int .i64 1]) rfl hE (.tmp rfl (.tmp rfl .nil)) rfl ?_
      exact ⟨by rw [show costP n f x y = (0, 1) by unfold costP; rw [hNA, show nodeB n y = false by simpa using hNB]; rfl], K_0⟩
  ·
    refine c_reg R32_3_l ?_
    refine q0 p32_3_0 hE (st_move rfl) ?_
    clear hE a; intro a hE
    refine q0 p32_3_1 hE (st_move rfl) ?_
    clear hE a; intro a hE
    refine p_cons (s_call (xs := [Operand.tmp 14, Operand.tmp 15]) (args := [Value.pointer (some ⟨g, 0, none⟩), Value.int .i64 x]) p32_3_2 hE wn_none rfl rfl Try.func55 cl55 (node_any g n x (Value.map (some gm)) false (by simpa using hNA) _ B_g) ?_)
    rintro e w9 ⟨rfl, hk⟩
    replace B_g := kp_blk B_g hk (fun h => h)
    replace B_gm := kp_blk B_gm hk (fun h => h)
    replace K_0 := K_0.then_ hk (fun _ h => h.elim)
    refine ⟨_, rfl, ?_⟩
    clear hE a; intro a hE
    refine q0 p32_3_3 hE (st_not rfl rfl) ?_
    clear hE a; intro a hE
    refine q0 p32_3_4 hE (st_move rfl) ?_
    clear hE a; intro a hE
    refine p_cons (s_skip p32_3_5 hE (wn_some g32_3_4 rfl rfl) rfl ?_)
    clear hE a; intro a hE
    refine p_cons (s_skip p32_3_6 hE (wn_some g32_3_4 rfl rfl) rfl ?_)
    clear hE a; intro a hE
    refine p_cons (s_skip p32_3_7 hE (wn_some g32_3_4 rfl rfl) rfl ?_)
    clear hE a; intro a hE
    refine p_cons (s_skip p32_3_8 hE (wn_some g32_3_4 rfl rfl) rfl ?_)
    clear hE a; intro a hE
    refine q0 p32_3_9 hE (st_pick rfl rfl) ?_
    clear hE a; intro a hE
    refine q0 p32_3_10 hE (st_assign rfl) ?_
    clear hE a; intro a hE
    refine p_nil ?_
    refine x_norm ?_
    refine c_cond (t := true) hE rfl ?_
    refine c_reg R32_4_l ?_
    refine q0 p32_4_0 hE (st_assign rfl) ?_
    clear hE a; intro a hE
    refine q0 p32_4_1 hE (st_assign rfl) ?_
    clear hE a; intro a hE
    refine p_nil ?_
    refine x_norm ?_
    refine wp_ret ?_
    refine x_retB ?_
    refine x_ret ?_
    refine ret_list (rs := [.tmp 6, .tmp 7]) (vs := [Value.int .i64 0, Value.int .i64 1]) rfl hE (.tmp rfl (.tmp rfl .nil)) rfl ?_
    exact ⟨by rw [show costP n f x y = (0, 1) by unfold costP; rw [show nodeB n x = false by simpa using hNA]; rfl], K_0⟩
end Go.Proofs.Ytpnpfapdjdcnbaa.Lk
