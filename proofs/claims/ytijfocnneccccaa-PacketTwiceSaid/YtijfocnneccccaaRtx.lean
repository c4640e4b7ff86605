/- Views whose table a contract tells of: Check, Next. -/
import Derived.Test.YtijfocnneccccaaDtg
set_option maxRecDepth 100000
set_option linter.unusedVariables false
set_option linter.unusedSimpArgs false
namespace Go.Proofs.Ytijfocnneccccaa.Rx
open Go.RowKit Go.Proofs.YtijfocnneccccaaW.PrintWords Go.Proofs.Ytijfocnneccccaa.Ds Go.Proofs.Ytijfocnneccccaa.Ad Go.Proofs.Ytijfocnneccccaa.Hd Go.Proofs.Ytijfocnneccccaa.Hw Go.Proofs.Ytijfocnneccccaa.Hp Go.Proofs.Ytijfocnneccccaa.Dg
open Go.Proofs.Ytijfocnneccccaa.Pk (Kp)
open Go.Proofs.Ytijfocnneccccaa.Mi (st_eqlP MapI)
def nodeB (n : Int) : Bool := decide (0 ≤ n ∧ n < 64)
theorem node_t {n : Int} (h0 : 0 ≤ n) (h1 : n < 64) : nodeB n = true := decide_eq_true ⟨h0, h1⟩
theorem node_f {n : Int} (h : ¬ (0 ≤ n ∧ n < 64)) : nodeB n = false := decide_eq_false h
def perB (n : Int) : Bool := decide (n = -1) || nodeB n
def rightV (nd pf : Int) : Bool := nodeB nd && perB pf && !decide (pf = nd)
theorem per_b {n : Int} (h : perB n = true) : n = -1 ∨ 0 ≤ n ∧ n < 64 := by
 unfold perB nodeB at h
 simpa using h
theorem right_b {nd pf : Int} (h : rightV nd pf = true) : (0 ≤ nd ∧ nd < 64) ∧ (pf = -1 ∨ 0 ≤ pf ∧ pf < 64) := by
 unfold rightV at h
 simp only [Bool.and_eq_true] at h
 exact ⟨by have := h.1.1; unfold nodeB at this; simpa using this, per_b h.1.2⟩
/-- Where a datagram goes next: kind, next, down, error. -/
def nextF (nd pf : Int) (rt : Bool) (v tg fr : Int) (dn : Bool) : Int × Int × Bool × Int :=
 if (rightV nd pf && nodeB tg && perB fr) = true then
  if tg = nd then (0, -1, false, 0) else if 0 ≤ v then (1, v, true, 0)
  else if (dn && !decide (fr = -1)) = true then (3, fr, true, 0) else if (rt || decide (pf = -1)) = true then (4, -1, false, 0) else (2, pf, false, 0)
 else (0, 0, false, 1)
def hopV (h : Int × Int × Bool × Int) : Value := .tuple #[.agg #[.int .i64 h.1, .int .i64 h.2.1, .bool h.2.2.1], .int .i64 h.2.2.2]
theorem bif_ne (b : Bool) : (!decide ((bif b then (0 : Int) else 1) = 0)) = !b := by cases b <;> rfl
/-- What a table tells: the neighbour by which a node is reached; below 0: none. -/
structure Tb (RV : Value) (v : Int → Int) (g : Int → Int × Int × Int) (er : Int) (w : World) (S : Nat → Prop) : Prop where
 yes : ∀ tg, 0 ≤ v tg → ∀ W', Kp w W' S → Calls Try.prog 111 #[RV, .int .i64 tg] W' fun e w' => e = .returned (.tuple #[.agg #[.int .i64 (g tg).1, .int .i64 (v tg), .int .i64 (g tg).2.1, .int .i64 (g tg).2.2], .int .i64 0]) ∧ Kp W' w' (fun _ => False)
 no : ∀ tg, ¬ 0 ≤ v tg → ∀ W', Kp w W' S → Calls Try.prog 111 #[RV, .int .i64 tg] W' fun e w' => e = .returned (.tuple #[.agg #[.int .i64 0, .int .i64 0, .int .i64 0, .int .i64 0], .int .i64 er]) ∧ Kp W' w' (fun _ => False)
 er : ¬ er = 0
theorem Tb.at {RV : Value} {v : Int → Int} {g : Int → Int × Int × Int} {er : Int} {w W : World} {S S2 : Nat → Prop} (h : Tb RV v g er w S) (hk : Kp w W S) (hs : ∀ k, S2 k → S k ∨ w.heap.size ≤ k) : Tb RV v g er W S2 := ⟨fun tg h0 W' hk' => h.yes tg h0 W' (hk.then_ hk' hs), fun tg h0 W' hk' => h.no tg h0 W' (hk.then_ hk' hs), h.er⟩
theorem wn_undef {R : Array Oper} {m : List (Nat × Value)} {j : Nat} {want : Bool} {t : Nat} (hj : dstOf R j = some t) (hl : Go.Proofs.Ytijfocnneccccaa.Ds.look m t = some undef) : Wn R m (some (j, want)) false := fun n a hE o ho => by
 unfold Region.wanted
 rw [ho]
 simp only
 have h1 : yielded R a.tmps j = none := by
  unfold yielded
  unfold dstOf at hj
  rw [hj]
  simp [hE.get t _ hl, undef]
 rw [h1]
 rfl
theorem R67_0_l : List.range (regOf Try.f67 0).size = [0] := by kernel_rfl
theorem R67_1_l : List.range (regOf Try.f67 1).size = [0, 1, 2, 3, 4, 5, 6] := by kernel_rfl
theorem body67 : Try.f67.body = some (.seq (.region 0 (regOf Try.f67 0) false) (.seq (.region 1 (regOf Try.f67 1) false) (.ret))) := by kernel_rfl
theorem p67_0_0 : pj (regOf Try.f67 0) 0 = some (some 2, .assign (.const (.bool false)), 4, none) := by kernel_rfl
theorem P67_1 : (List.range (regOf Try.f67 1).size).map (pj (regOf Try.f67 1)) = [zz 3 (.move (.tmp 0)) 3, zz 4 (.binOp .geq 3 (.tmp 3) (.const (.int .i64 0)) 3) 4, zz 5 (.move (.tmp 4)) 4, some (some 6, .move (.tmp 0), 3, some (2, true)), some (some 7, .binOp .lss 3 (.tmp 6) (.const (.int .i64 64)) 3, 4, some (2, true)), zz 8 (.pick (.tmp 5) (.tmp 7) (.const (.bool false))) 4, zz 2 (.assign (.tmp 8)) 4] := by kernel_rfl
theorem g67_1_2 : dstOf (regOf Try.f67 1) 2 = some 5 := by kernel_rfl
set_option maxHeartbeats 4000000 in
theorem pnode (n : Int) (w : World) : Calls Try.prog 67 #[.int .i64 n] w fun e w' => e = .returned (.bool (nodeB n)) ∧ Kp w w' (fun _ => False) := by
 have K_0 := Kp.refl w (fun _ => False)
 refine enter (args := [Value.int .i64 n]) (n := 9) Try.func67 body67 rfl rfl rfl ?_
 intro a hE
 refine c_reg R67_0_l ?_
 refine q0 p67_0_0 hE (st_assign rfl) ?_; clear hE a; intro a hE
 refine p_nil (x_norm (c_reg R67_1_l ?_))
 refine q0 (pl P67_1 0) hE (st_move rfl) ?_; clear hE a; intro a hE
 rcases Decidable.em (0 ≤ n) with hc1 | hc1
 ·
  refine qn hE (rg (v := Value.bool true) (pl P67_1 1) wn_none (st_geq rfl rfl (decide_eq_true hc1)) (rc (pl P67_1 2) (st_move rfl) (rg (pl P67_1 3) (wn_some g67_1_2 rfl rfl) (st_move rfl) rn))) ?_; clear hE a; intro a hE
  rcases Decidable.em (n < 64) with hc2 | hc2
  ·
   refine qn hE (rg (v := Value.bool true) (pl P67_1 4) (wn_some g67_1_2 rfl rfl) (st_lss rfl rfl (decide_eq_true hc2)) (rc (pl P67_1 5) (st_pick rfl rfl) (rc (pl P67_1 6) (st_assign rfl) rn))) ?_; clear hE a; intro a hE
   refine p_nil (x_norm (wp_ret ?_))
   refine ret_one (v := Value.bool true) rfl hE (.tmp rfl .nil) ?_
   exact ⟨by rw [node_t (by omega) (by omega)], K_0⟩
  ·
   refine qn hE (rg (v := Value.bool false) (pl P67_1 4) (wn_some g67_1_2 rfl rfl) (st_lss rfl rfl (decide_eq_false hc2)) (rc (pl P67_1 5) (st_pick rfl rfl) (rc (pl P67_1 6) (st_assign rfl) rn))) ?_; clear hE a; intro a hE
   refine p_nil (x_norm (wp_ret ?_))
   refine ret_one (v := Value.bool false) rfl hE (.tmp rfl .nil) ?_
   exact ⟨by rw [node_f (by omega)], K_0⟩
 ·
  refine qn hE (rg (v := Value.bool false) (pl P67_1 1) wn_none (st_geq rfl rfl (decide_eq_false hc1)) (rc (pl P67_1 2) (st_move rfl) (Ds.rk (pl P67_1 3) (wn_some g67_1_2 rfl rfl) (Ds.rk (pl P67_1 4) (wn_some g67_1_2 rfl rfl) (rc (pl P67_1 5) (st_pick rfl rfl) (rc (pl P67_1 6) (st_assign rfl) rn)))))) ?_; clear hE a; intro a hE
  refine p_nil (x_norm (wp_ret ?_))
  refine ret_one (v := Value.bool false) rfl hE (.tmp rfl .nil) ?_
  exact ⟨by rw [node_f (by omega)], K_0⟩
theorem R30_0_l : List.range (regOf Try.f30 0).size = [0] := by kernel_rfl
theorem R30_1_l : List.range (regOf Try.f30 1).size = [0, 1, 2, 3, 4, 5, 6] := by kernel_rfl
theorem body30 : Try.f30.body = some (.seq (.region 0 (regOf Try.f30 0) false) (.seq (.region 1 (regOf Try.f30 1) false) (.ret))) := by kernel_rfl
theorem p30_0_0 : pj (regOf Try.f30 0) 0 = some (some 2, .assign (.const (.bool false)), 4, none) := by kernel_rfl
theorem P30_1 : (List.range (regOf Try.f30 1).size).map (pj (regOf Try.f30 1)) = [zz 3 (.move (.tmp 0)) 3, zz 4 (.binOp .geq 3 (.tmp 3) (.const (.int .i64 0)) 3) 4, zz 5 (.move (.tmp 4)) 4, some (some 6, .move (.tmp 0), 3, some (2, true)), some (some 7, .binOp .lss 3 (.tmp 6) (.const (.int .i64 64)) 3, 4, some (2, true)), zz 8 (.pick (.tmp 5) (.tmp 7) (.const (.bool false))) 4, zz 2 (.assign (.tmp 8)) 4] := by kernel_rfl
theorem g30_1_2 : dstOf (regOf Try.f30 1) 2 = some 5 := by kernel_rfl
set_option maxHeartbeats 4000000 in
theorem knode (n : Int) (w : World) : Calls Try.prog 30 #[.int .i64 n] w fun e w' => e = .returned (.bool (nodeB n)) ∧ Kp w w' (fun _ => False) := by
 have K_0 := Kp.refl w (fun _ => False)
 refine enter (args := [Value.int .i64 n]) (n := 9) Try.func30 body30 rfl rfl rfl ?_
 intro a hE
 refine c_reg R30_0_l ?_
 refine q0 p30_0_0 hE (st_assign rfl) ?_; clear hE a; intro a hE
 refine p_nil (x_norm (c_reg R30_1_l ?_))
 refine q0 (pl P30_1 0) hE (st_move rfl) ?_; clear hE a; intro a hE
 rcases Decidable.em (0 ≤ n) with hc1 | hc1
 ·
  refine qn hE (rg (v := Value.bool true) (pl P30_1 1) wn_none (st_geq rfl rfl (decide_eq_true hc1)) (rc (pl P30_1 2) (st_move rfl) (rg (pl P30_1 3) (wn_some g30_1_2 rfl rfl) (st_move rfl) rn))) ?_; clear hE a; intro a hE
  rcases Decidable.em (n < 64) with hc2 | hc2
  ·
   refine qn hE (rg (v := Value.bool true) (pl P30_1 4) (wn_some g30_1_2 rfl rfl) (st_lss rfl rfl (decide_eq_true hc2)) (rc (pl P30_1 5) (st_pick rfl rfl) (rc (pl P30_1 6) (st_assign rfl) rn))) ?_; clear hE a; intro a hE
   refine p_nil (x_norm (wp_ret ?_))
   refine ret_one (v := Value.bool true) rfl hE (.tmp rfl .nil) ?_
   exact ⟨by rw [node_t (by omega) (by omega)], K_0⟩
  ·
   refine qn hE (rg (v := Value.bool false) (pl P30_1 4) (wn_some g30_1_2 rfl rfl) (st_lss rfl rfl (decide_eq_false hc2)) (rc (pl P30_1 5) (st_pick rfl rfl) (rc (pl P30_1 6) (st_assign rfl) rn))) ?_; clear hE a; intro a hE
   refine p_nil (x_norm (wp_ret ?_))
   refine ret_one (v := Value.bool false) rfl hE (.tmp rfl .nil) ?_
   exact ⟨by rw [node_f (by omega)], K_0⟩
 ·
  refine qn hE (rg (v := Value.bool false) (pl P30_1 1) wn_none (st_geq rfl rfl (decide_eq_false hc1)) (rc (pl P30_1 2) (st_move rfl) (Ds.rk (pl P30_1 3) (wn_some g30_1_2 rfl rfl) (Ds.rk (pl P30_1 4) (wn_some g30_1_2 rfl rfl) (rc (pl P30_1 5) (st_pick rfl rfl) (rc (pl P30_1 6) (st_assign rfl) rn)))))) ?_; clear hE a; intro a hE
  refine p_nil (x_norm (wp_ret ?_))
  refine ret_one (v := Value.bool false) rfl hE (.tmp rfl .nil) ?_
  exact ⟨by rw [node_f (by omega)], K_0⟩
theorem R68_0_l : List.range (regOf Try.f68 0).size = [0] := by kernel_rfl
theorem R68_1_l : List.range (regOf Try.f68 1).size = [0, 1, 2, 3, 4, 5, 6] := by kernel_rfl
theorem body68 : Try.f68.body = some (.seq (.region 0 (regOf Try.f68 0) false) (.seq (.region 1 (regOf Try.f68 1) false) (.ret))) := by kernel_rfl
theorem p68_0_0 : pj (regOf Try.f68 0) 0 = some (some 2, .assign (.const (.bool false)), 4, none) := by kernel_rfl
theorem P68_1 : (List.range (regOf Try.f68 1).size).map (pj (regOf Try.f68 1)) = [zz 3 (.move (.tmp 0)) 3, zz 4 (.binOp .eql 3 (.tmp 3) (.const (.int .i64 (-1))) 3) 4, zz 5 (.move (.tmp 4)) 4, some (some 6, .move (.tmp 0), 3, some (2, false)), some (some 7, .call { callee := .value (.func 67), args := #[.tmp 6], argTypes := #[3] }, 4, some (2, false)), zz 8 (.pick (.tmp 5) (.const (.bool true)) (.tmp 7)) 4, zz 2 (.assign (.tmp 8)) 4] := by kernel_rfl
theorem g68_1_2 : dstOf (regOf Try.f68 1) 2 = some 5 := by kernel_rfl
theorem cl67 : callable Try.f67 = true := by kernel_rfl
set_option maxHeartbeats 4000000 in
theorem pper (n : Int) (w : World) : Calls Try.prog 68 #[.int .i64 n] w fun e w' => e = .returned (.bool (perB n)) ∧ Kp w w' (fun _ => False) := by
 have K_0 := Kp.refl w (fun _ => False)
 refine enter (args := [Value.int .i64 n]) (n := 9) Try.func68 body68 rfl rfl rfl ?_
 intro a hE
 refine c_reg R68_0_l ?_
 refine q0 p68_0_0 hE (st_assign rfl) ?_; clear hE a; intro a hE
 refine p_nil (x_norm (c_reg R68_1_l ?_))
 refine q0 (pl P68_1 0) hE (st_move rfl) ?_; clear hE a; intro a hE
 rcases Decidable.em (n = -1) with hc1 | hc1
 ·
  refine qn hE (rg (v := Value.bool true) (pl P68_1 1) wn_none (st_eql rfl rfl (decide_eq_true hc1)) (rc (pl P68_1 2) (st_move rfl) (Ds.rk (pl P68_1 3) (wn_some g68_1_2 rfl rfl) (Ds.rk (pl P68_1 4) (wn_some g68_1_2 rfl rfl) (rc (pl P68_1 5) (st_pick rfl rfl) (rc (pl P68_1 6) (st_assign rfl) rn)))))) ?_; clear hE a; intro a hE
  refine p_nil (x_norm (wp_ret ?_))
  refine ret_one (v := Value.bool true) rfl hE (.tmp rfl .nil) ?_
  exact ⟨by unfold perB; simp [hc1], K_0⟩
 ·
  refine qn hE (rg (v := Value.bool false) (pl P68_1 1) wn_none (st_eql rfl rfl (decide_eq_false hc1)) (rc (pl P68_1 2) (st_move rfl) (rg (pl P68_1 3) (wn_some g68_1_2 rfl rfl) (st_move rfl) rn))) ?_; clear hE a; intro a hE
  refine p_cons (s_call (xs := [Operand.tmp 6]) (args := [Value.int .i64 n]) (pl P68_1 4) hE (wn_some g68_1_2 rfl rfl) rfl rfl Try.func67 cl67 (pnode n _) ?_)
  rintro e w2 ⟨rfl, hk⟩
  replace K_0 := K_0.then_ hk (fun _ h => h.elim)
  refine ⟨_, rfl, ?_⟩; clear hE a; intro a hE
  refine qn hE (rc (pl P68_1 5) (st_pick rfl rfl) (rc (pl P68_1 6) (st_assign rfl) rn)) ?_; clear hE a; intro a hE
  refine p_nil (x_norm (wp_ret ?_))
  refine ret_one (v := Value.bool (nodeB n)) rfl hE (.tmp rfl .nil) ?_
  exact ⟨by unfold perB; simp [hc1], K_0⟩
theorem R29_0_l : List.range (regOf Try.f29 0).size = [0, 1] := by kernel_rfl
theorem R29_1_l : List.range (regOf Try.f29 1).size = [0, 1, 2, 3, 4, 5, 6, 7, 8, 9, 10, 11, 12, 13, 14, 15, 16] := by kernel_rfl
theorem R29_2_l : List.range (regOf Try.f29 2).size = [0] := by kernel_rfl
theorem R29_3_l : List.range (regOf Try.f29 3).size = [0] := by kernel_rfl
theorem body29 : Try.f29.body = some (.seq (.region 0 (regOf Try.f29 0) false) (.seq (.seq (.region 1 (regOf Try.f29 1) false) (.cond (Operand.tmp 19) (.seq (.region 2 (regOf Try.f29 2) false) (.ret)) (.skip))) (.seq (.region 3 (regOf Try.f29 3) false) (.ret)))) := by kernel_rfl
theorem P29_0 : (List.range (regOf Try.f29 0).size).map (pj (regOf Try.f29 0)) = [zz 1 (.box 41 (.tmp 0)) 0, zz 2 (.assign (.const (.int .i64 0))) 36] := by kernel_rfl
theorem P29_1 : (List.range (regOf Try.f29 1).size).map (pj (regOf Try.f29 1)) = [zz 3 (.fieldAddr 41 (.tmp 1) 0) 0, zz 4 (.load 3 (.tmp 3)) 3, zz 5 (.call { callee := .value (.func 67), args := #[.tmp 4], argTypes := #[3] }) 4, zz 6 (.unOp .not 4 (.tmp 5)) 4, zz 7 (.move (.tmp 6)) 4, some (some 8, .fieldAddr 41 (.tmp 1) 1, 0, some (4, false)), some (some 9, .load 3 (.tmp 8), 3, some (4, false)), some (some 10, .call { callee := .value (.func 68), args := #[.tmp 9], argTypes := #[3] }, 4, some (4, false)), some (some 11, .unOp .not 4 (.tmp 10), 4, some (4, false)), zz 12 (.pick (.tmp 7) (.const (.bool true)) (.tmp 11)) 4, zz 13 (.move (.tmp 12)) 4, some (some 14, .fieldAddr 41 (.tmp 1) 1, 0, some (10, false)), some (some 15, .load 3 (.tmp 14), 3, some (10, false)), some (some 16, .fieldAddr 41 (.tmp 1) 0, 0, some (10, false)), some (some 17, .load 3 (.tmp 16), 3, some (10, false)), some (some 18, .binOp .eql 3 (.tmp 15) (.tmp 17) 3, 4, some (10, false)), zz 19 (.pick (.tmp 13) (.const (.bool true)) (.tmp 18)) 4] := by kernel_rfl
theorem tS3 : (Try.prog.info? 3).map (·.size) = some 1 := by kernel_rfl
theorem tA3 : (Try.prog.underlying 3).map aggD = some false := by kernel_rfl
theorem g29_1_4 : dstOf (regOf Try.f29 1) 4 = some 7 := by kernel_rfl
theorem cl68 : callable Try.f68 = true := by kernel_rfl
theorem g29_1_10 : dstOf (regOf Try.f29 1) 10 = some 13 := by kernel_rfl
theorem p29_2_0 : pj (regOf Try.f29 2) 0 = some (some 2, .assign (.const (.int .i64 1)), 36, none) := by kernel_rfl
theorem p29_3_0 : pj (regOf Try.f29 3) 0 = some (some 2, .assign (.const (.int .i64 0)), 36, none) := by kernel_rfl
set_option maxHeartbeats 4000000 in
theorem rcheck (nd pf : Int) (rt : Bool) (RV : Value) (w : World) : Calls Try.prog 29 #[Value.agg #[Value.int .i64 nd, Value.int .i64 pf, Value.bool rt, RV]] w fun e w' => e = .returned (.int .i64 (bif rightV nd pf then 0 else 1)) ∧ Kp w w' (fun _ => False) := by
 have K_0 := Kp.refl w (fun _ => False)
 refine enter (args := [Value.agg #[Value.int .i64 nd, Value.int .i64 pf, Value.bool rt, RV]]) (n := 20) Try.func29 body29 rfl rfl rfl ?_
 intro a hE
 refine c_reg R29_0_l ?_
 refine p_cons (s_box (pl P29_0 0) hE wn_none rfl rfl ?_)
 clear hE a; intro g1 w2 z3 B_g1 hk a hE
 replace B_g1 : w2.heap[g1]? = some (.cells #[Value.int .i64 nd, Value.int .i64 pf, Value.bool rt, RV] 41 (0, 0)) := B_g1
 have z_0_g1 := Nat.le_trans K_0.kept.1 z3
 replace K_0 := K_0.then_ hk (fun _ h => h.elim)
 clear hk
 refine q0 (pl P29_0 1) hE (st_assign rfl) ?_; clear hE a; intro a hE
 refine p_nil (x_norm (wp_seq (c_reg R29_1_l ?_)))
 refine qn hE (rc (pl P29_1 0) (st_fieldAddr Try.underlying41 rfl tS3 rfl rfl) (rc (pl P29_1 1) (st_load1 tA3 rfl ((blk_cell B_g1 0).trans rfl)) rn)) ?_; clear hE a; intro a hE
 refine p_cons (s_call (xs := [Operand.tmp 4]) (args := [Value.int .i64 nd]) (pl P29_1 2) hE wn_none rfl rfl Try.func67 cl67 (pnode nd _) ?_)
 rintro e w4 ⟨rfl, hk⟩
 replace B_g1 := kp_blk B_g1 hk (fun h => h)
 replace K_0 := K_0.then_ hk (fun _ h => h.elim)
 refine ⟨_, rfl, ?_⟩; clear hE a; intro a hE
 refine qn hE (rc (pl P29_1 3) (st_not rfl rfl) (rc (pl P29_1 4) (st_move rfl) rn)) ?_; clear hE a; intro a hE
 rcases Bool.eq_false_or_eq_true (nodeB nd) with hb5 | hb5
 ·
  rw [hb5] at hE
  refine qn hE (rg (pl P29_1 5) (wn_some g29_1_4 rfl rfl) (st_fieldAddr Try.underlying41 rfl tS3 rfl rfl) (rg (pl P29_1 6) (wn_some g29_1_4 rfl rfl) (st_load1 tA3 rfl ((blk_cell B_g1 1).trans rfl)) rn)) ?_; clear hE a; intro a hE
  refine p_cons (s_call (xs := [Operand.tmp 9]) (args := [Value.int .i64 pf]) (pl P29_1 7) hE (wn_some g29_1_4 rfl rfl) rfl rfl Try.func68 cl68 (pper pf _) ?_)
  rintro e w6 ⟨rfl, hk⟩
  replace B_g1 := kp_blk B_g1 hk (fun h => h)
  replace K_0 := K_0.then_ hk (fun _ h => h.elim)
  refine ⟨_, rfl, ?_⟩; clear hE a; intro a hE
  refine qn hE (rg (pl P29_1 8) (wn_some g29_1_4 rfl rfl) (st_not rfl rfl) (rc (pl P29_1 9) (st_pick rfl rfl) (rc (pl P29_1 10) (st_move rfl) rn))) ?_; clear hE a; intro a hE
  rcases Bool.eq_false_or_eq_true (perB pf) with hb7 | hb7
  ·
   rw [hb7] at hE
   refine qn hE (rg (pl P29_1 11) (wn_some g29_1_10 rfl rfl) (st_fieldAddr Try.underlying41 rfl tS3 rfl rfl) (rg (pl P29_1 12) (wn_some g29_1_10 rfl rfl) (st_load1 tA3 rfl ((blk_cell B_g1 1).trans rfl)) (rg (pl P29_1 13) (wn_some g29_1_10 rfl rfl) (st_fieldAddr Try.underlying41 rfl tS3 rfl rfl) (rg (pl P29_1 14) (wn_some g29_1_10 rfl rfl) (st_load1 tA3 rfl ((blk_cell B_g1 0).trans rfl)) rn)))) ?_; clear hE a; intro a hE
   rcases Decidable.em (pf = nd) with hc8 | hc8
   ·
    refine qn hE (rg (v := Value.bool true) (pl P29_1 15) (wn_some g29_1_10 rfl rfl) (st_eql rfl rfl (decide_eq_true hc8)) (rc (pl P29_1 16) (st_pick rfl rfl) rn)) ?_; clear hE a; intro a hE
    refine p_nil (x_norm ?_)
    refine c_cond (t := true) hE rfl ?_
    refine c_reg R29_2_l ?_
    refine q0 p29_2_0 hE (st_assign rfl) ?_; clear hE a; intro a hE
    refine p_nil (x_norm (wp_ret (x_ret ?_)))
    refine ret_one (v := Value.int .i64 1) rfl hE (.tmp rfl .nil) ?_
    have e0 : rightV nd pf = false := by unfold rightV; simp [hb5, hb7, hc8]
    exact ⟨by rw [e0]; rfl, K_0⟩
   ·
    refine qn hE (rg (v := Value.bool false) (pl P29_1 15) (wn_some g29_1_10 rfl rfl) (st_eql rfl rfl (decide_eq_false hc8)) (rc (pl P29_1 16) (st_pick rfl rfl) rn)) ?_; clear hE a; intro a hE
    refine p_nil (x_norm ?_)
    refine c_cond (t := false) hE rfl ?_
    refine wp_skip (x_norm (c_reg R29_3_l ?_))
    refine q0 p29_3_0 hE (st_assign rfl) ?_; clear hE a; intro a hE
    refine p_nil (x_norm (wp_ret ?_))
    refine ret_one (v := Value.int .i64 0) rfl hE (.tmp rfl .nil) ?_
    have e0 : rightV nd pf = true := by unfold rightV; simp [hb5, hb7, hc8]
    exact ⟨by rw [e0]; rfl, K_0⟩
  ·
   rw [hb7] at hE
   refine qn hE (Ds.rk (pl P29_1 11) (wn_some g29_1_10 rfl rfl) (Ds.rk (pl P29_1 12) (wn_some g29_1_10 rfl rfl) (Ds.rk (pl P29_1 13) (wn_some g29_1_10 rfl rfl) (Ds.rk (pl P29_1 14) (wn_some g29_1_10 rfl rfl) (Ds.rk (pl P29_1 15) (wn_some g29_1_10 rfl rfl) (rc (pl P29_1 16) (st_pick rfl rfl) rn)))))) ?_; clear hE a; intro a hE
   refine p_nil (x_norm ?_)
   refine c_cond (t := true) hE rfl ?_
   refine c_reg R29_2_l ?_
   refine q0 p29_2_0 hE (st_assign rfl) ?_; clear hE a; intro a hE
   refine p_nil (x_norm (wp_ret (x_ret ?_)))
   refine ret_one (v := Value.int .i64 1) rfl hE (.tmp rfl .nil) ?_
   have e0 : rightV nd pf = false := by unfold rightV; simp [hb5, hb7]
   exact ⟨by rw [e0]; rfl, K_0⟩
 ·
  rw [hb5] at hE
  refine qn hE (Ds.rk (pl P29_1 5) (wn_some g29_1_4 rfl rfl) (Ds.rk (pl P29_1 6) (wn_some g29_1_4 rfl rfl) (Ds.rk (pl P29_1 7) (wn_some g29_1_4 rfl rfl) (Ds.rk (pl P29_1 8) (wn_some g29_1_4 rfl rfl) (rc (pl P29_1 9) (st_pick rfl rfl) (rc (pl P29_1 10) (st_move rfl) (Ds.rk (pl P29_1 11) (wn_some g29_1_10 rfl rfl) (Ds.rk (pl P29_1 12) (wn_some g29_1_10 rfl rfl) (Ds.rk (pl P29_1 13) (wn_some g29_1_10 rfl rfl) (Ds.rk (pl P29_1 14) (wn_some g29_1_10 rfl rfl) (Ds.rk (pl P29_1 15) (wn_some g29_1_10 rfl rfl) (rc (pl P29_1 16) (st_pick rfl rfl) rn)))))))))))) ?_; clear hE a; intro a hE
  refine p_nil (x_norm ?_)
  refine c_cond (t := true) hE rfl ?_
  refine c_reg R29_2_l ?_
  refine q0 p29_2_0 hE (st_assign rfl) ?_; clear hE a; intro a hE
  refine p_nil (x_norm (wp_ret (x_ret ?_)))
  refine ret_one (v := Value.int .i64 1) rfl hE (.tmp rfl .nil) ?_
  have e0 : rightV nd pf = false := by unfold rightV; simp [hb5]
  exact ⟨by rw [e0]; rfl, K_0⟩
theorem R111_0_l : List.range (regOf Try.f111 0).size = [0, 1] := by kernel_rfl
theorem R111_1_l : List.range (regOf Try.f111 1).size = [0, 1] := by kernel_rfl
theorem R111_2_l : List.range (regOf Try.f111 2).size = [0, 1, 2] := by kernel_rfl
theorem body111 : Try.f111.body = some (.seq (.region 0 (regOf Try.f111 0) false) (.seq (.seq (.region 1 (regOf Try.f111 1) false) (.cond (Operand.tmp 9) (.seq (.region 2 (regOf Try.f111 2) false) (.ret)) (.skip))) (.seq (.region 3 (regOf Try.f111 3) false) (.seq (.seq (.region 4 (regOf Try.f111 4) false) (.cond (Operand.tmp 21) (.seq (.region 5 (regOf Try.f111 5) false) (.ret)) (.skip))) (.seq (.region 6 (regOf Try.f111 6) false) (.ret)))))) := by kernel_rfl
theorem P111_0 : (List.range (regOf Try.f111 0).size).map (pj (regOf Try.f111 0)) = [zz 4 (.alloc 185) 0, zz 5 (.assign (.const (.int .i64 0))) 36] := by kernel_rfl
theorem tZ185 : (Try.prog.info? 185).bind (·.zero) = some (Value.agg #[Value.int .i64 0, Value.int .i64 0, Value.int .i64 0, Value.int .i64 0]) := by kernel_rfl
theorem P111_1 : (List.range (regOf Try.f111 1).size).map (pj (regOf Try.f111 1)) = [zz 8 (.move (.tmp 0)) 39, zz 9 (.binOp .eql 39 (.tmp 8) (.const (.pointer none)) 39) 4] := by kernel_rfl
theorem tP39 : Try.prog.underlying 39 = some (.pointer (Try.prog.pointee 39)) := by kernel_rfl
theorem P111_2 : (List.range (regOf Try.f111 2).size).map (pj (regOf Try.f111 2)) = [zz 10 (.build 185 #[]) 185, some (none, .store 185 (.tmp 4) (.tmp 10), 0, none), zz 5 (.assign (.const (.int .i64 13))) 36] := by kernel_rfl
theorem tS185 : (Try.prog.info? 185).map (·.size) = some 4 := by kernel_rfl
theorem tA185 : (Try.prog.underlying 185).map aggD = some true := by kernel_rfl
set_option maxHeartbeats 4000000 in
theorem get_0 (n : Int) (w : World) : Calls Try.prog 111 #[.pointer none, .int .i64 n] w fun e w' => e = .returned (.tuple #[Value.agg #[Value.int .i64 0, Value.int .i64 0, Value.int .i64 0, Value.int .i64 0], .int .i64 13]) ∧ Kp w w' (fun _ => False) := by
 have K_0 := Kp.refl w (fun _ => False)
 refine enter (args := [Value.pointer none, Value.int .i64 n]) (n := 24) Try.func111 body111 rfl rfl rfl ?_
 intro a hE
 refine c_reg R111_0_l ?_
 refine p_cons (s_alloc (pl P111_0 0) hE wn_none rfl tZ185 ?_)
 clear hE a; intro g1 w2 z3 B_g1 hk a hE
 replace B_g1 : w2.heap[g1]? = some (.cells #[Value.int .i64 0, Value.int .i64 0, Value.int .i64 0, Value.int .i64 0] 185 (0, 0)) := B_g1
 have z_0_g1 := Nat.le_trans K_0.kept.1 z3
 replace K_0 := K_0.then_ hk (fun _ h => h.elim)
 clear hk
 refine q0 (pl P111_0 1) hE (st_assign rfl) ?_; clear hE a; intro a hE
 refine p_nil (x_norm (wp_seq (c_reg R111_1_l ?_)))
 refine qn hE (rc (pl P111_1 0) (st_move rfl) (rc (pl P111_1 1) (st_eqlP (b := true) tP39 rfl rfl rfl) rn)) ?_; clear hE a; intro a hE
 refine p_nil (x_norm ?_)
 refine c_cond (t := true) hE rfl ?_
 refine c_reg R111_2_l ?_
 refine q0 (pl P111_2 0) hE (st_build (xs := []) (vs := []) (cs := #[Value.int .i64 0, Value.int .i64 0, Value.int .i64 0, Value.int .i64 0]) rfl (by kernel_rfl)) ?_; clear hE a; intro a hE
 refine p_cons (s_store (off := 0) (k := 4) (cs' := #[Value.int .i64 0, Value.int .i64 0, Value.int .i64 0, Value.int .i64 0]) (pl P111_2 1) hE wn_none tS185 rfl rfl rfl rfl B_g1 (Nat.le_of_ble_eq_true rfl) rfl ?_)
 intro w4 B_g1' hk
 replace K_0 := K_0.then_ hk (fun k h => by rw [show k = g1 from h]; exact Or.inr z_0_g1)
 replace B_g1 := B_g1'
 clear hk
 refine q0 (pl P111_2 2) hE (st_assign rfl) ?_; clear hE a; intro a hE
 refine p_nil (x_norm (wp_ret (x_ret ?_)))
 refine ret_list (rs := [.cell 4 185, .tmp 5]) (vs := [Value.agg #[Value.int .i64 0, Value.int .i64 0, Value.int .i64 0, Value.int .i64 0], Value.int .i64 13]) rfl hE (.cellN (us := [Value.int .i64 0, Value.int .i64 0, Value.int .i64 0, Value.int .i64 0]) tA185 tS185 rfl B_g1 rfl (.tmp rfl .nil)) rfl ?_
 exact ⟨rfl, K_0⟩
theorem tb_nil (w : World) (S : Nat → Prop) : Tb (.pointer none) (fun _ => -1) (fun _ => (0, 0, 0)) 13 w S := ⟨fun tg h => absurd h (by decide), fun tg _ W' _ => get_0 tg W', by decide⟩
theorem R113_0_l : List.range (regOf Try.f113 0).size = [0, 1, 2] := by kernel_rfl
theorem R113_1_l : List.range (regOf Try.f113 1).size = [0, 1, 2, 3, 4, 5, 6, 7, 8, 9, 10, 11, 12] := by kernel_rfl
theorem R113_2_l : List.range (regOf Try.f113 2).size = [0, 1, 2] := by kernel_rfl
theorem R113_3_l : List.range (regOf Try.f113 3).size = [0, 1, 2, 3] := by kernel_rfl
theorem R113_4_l : List.range (regOf Try.f113 4).size = [0, 1, 2] := by kernel_rfl
theorem R113_5_l : List.range (regOf Try.f113 5).size = [0, 1, 2, 3, 4, 5, 6, 7, 8, 9] := by kernel_rfl
theorem R113_6_l : List.range (regOf Try.f113 6).size = [0, 1] := by kernel_rfl
theorem R113_7_l : List.range (regOf Try.f113 7).size = [0, 1, 2, 3, 4] := by kernel_rfl
theorem R113_8_l : List.range (regOf Try.f113 8).size = [0, 1, 2, 3, 4, 5] := by kernel_rfl
theorem R113_9_l : List.range (regOf Try.f113 9).size = [0, 1, 2, 3] := by kernel_rfl
theorem R113_10_l : List.range (regOf Try.f113 10).size = [0, 1, 2, 3, 4, 5, 6, 7] := by kernel_rfl
theorem R113_11_l : List.range (regOf Try.f113 11).size = [0, 1, 2] := by kernel_rfl
theorem R113_12_l : List.range (regOf Try.f113 12).size = [0, 1, 2, 3, 4] := by kernel_rfl
theorem body113 : Try.f113.body = some (.seq (.region 0 (regOf Try.f113 0) false) (.seq (.seq (.region 1 (regOf Try.f113 1) false) (.cond (Operand.tmp 24) (.seq (.region 2 (regOf Try.f113 2) false) (.ret)) (.skip))) (.seq (.seq (.region 3 (regOf Try.f113 3) false) (.cond (Operand.tmp 29) (.seq (.region 4 (regOf Try.f113 4) false) (.ret)) (.skip))) (.seq (.seq (.region 5 (regOf Try.f113 5) false) (.seq (.region 6 (regOf Try.f113 6) false) (.cond (Operand.tmp 39) (.seq (.region 7 (regOf Try.f113 7) false) (.ret)) (.skip)))) (.seq (.block 0 (.seq (.region 8 (regOf Try.f113 8) false) (.cond (Operand.tmp 43) (.seq (.region 9 (regOf Try.f113 9) false) (.ret)) (.seq (.region 10 (regOf Try.f113 10) false) (.cond (Operand.tmp 51) (.seq (.region 11 (regOf Try.f113 11) false) (.ret)) (.skip)))))) (.seq (.region 12 (regOf Try.f113 12) false) (.ret))))))) := by kernel_rfl
theorem P113_0 : (List.range (regOf Try.f113 0).size).map (pj (regOf Try.f113 0)) = [zz 4 (.box 41 (.tmp 0)) 0, zz 8 (.alloc 191) 0, zz 9 (.assign (.const (.int .i64 0))) 36] := by kernel_rfl
theorem tZ191 : (Try.prog.info? 191).bind (·.zero) = some (Value.agg #[Value.int .i64 0, Value.int .i64 0, Value.bool false]) := by kernel_rfl
theorem P113_1 : (List.range (regOf Try.f113 1).size).map (pj (regOf Try.f113 1)) = [zz 12 (.load 41 (.tmp 4)) 41, zz 13 (.call { callee := .value (.func 29), args := #[.tmp 12], argTypes := #[41] }) 36, zz 14 (.binOp .neq 36 (.tmp 13) (.const (.int .i64 0)) 36) 4, zz 15 (.move (.tmp 14)) 4, some (some 16, .move (.tmp 1), 3, some (3, false)), some (some 17, .call { callee := .value (.func 67), args := #[.tmp 16], argTypes := #[3] }, 4, some (3, false)), some (some 18, .unOp .not 4 (.tmp 17), 4, some (3, false)), zz 19 (.pick (.tmp 15) (.const (.bool true)) (.tmp 18)) 4, zz 20 (.move (.tmp 19)) 4, some (some 21, .move (.tmp 2), 3, some (8, false)), some (some 22, .call { callee := .value (.func 68), args := #[.tmp 21], argTypes := #[3] }, 4, some (8, false)), some (some 23, .unOp .not 4 (.tmp 22), 4, some (8, false)), zz 24 (.pick (.tmp 20) (.const (.bool true)) (.tmp 23)) 4] := by kernel_rfl
theorem tA41 : (Try.prog.underlying 41).map aggD = some true := by kernel_rfl
theorem tS41 : (Try.prog.info? 41).map (·.size) = some 4 := by kernel_rfl
theorem cl29 : callable Try.f29 = true := by kernel_rfl
theorem g113_1_3 : dstOf (regOf Try.f113 1) 3 = some 15 := by kernel_rfl
theorem g113_1_8 : dstOf (regOf Try.f113 1) 8 = some 20 := by kernel_rfl
theorem P113_3 : (List.range (regOf Try.f113 3).size).map (pj (regOf Try.f113 3)) = [zz 26 (.move (.tmp 1)) 3, zz 27 (.fieldAddr 41 (.tmp 4) 0) 0, zz 28 (.load 3 (.tmp 27)) 3, zz 29 (.binOp .eql 3 (.tmp 26) (.tmp 28) 3) 4] := by kernel_rfl
theorem P113_4 : (List.range (regOf Try.f113 4).size).map (pj (regOf Try.f113 4)) = [zz 30 (.build 191 #[(0, .const (.int .i64 0)), (1, .const (.int .i64 (-1))), (2, .const (.bool false))]) 191, some (none, .store 191 (.tmp 8) (.tmp 30), 0, none), zz 9 (.assign (.const (.int .i64 0))) 36] := by kernel_rfl
theorem tS191 : (Try.prog.info? 191).map (·.size) = some 3 := by kernel_rfl
theorem tA191 : (Try.prog.underlying 191).map aggD = some true := by kernel_rfl
theorem P113_5 : (List.range (regOf Try.f113 5).size).map (pj (regOf Try.f113 5)) = [zz 32 (.fieldAddr 41 (.tmp 4) 3) 0, zz 33 (.load 39 (.tmp 32)) 39, zz 34 (.move (.tmp 1)) 3, zz 35 (.call { callee := .value (.func 111), args := #[.tmp 33, .tmp 34], argTypes := #[39, 3] }) 186, zz 31 (.move (.tmp 35)) 186, zz 36 (.extract (.tmp 31) 0) 185, zz 37 (.extract (.tmp 31) 1) 36, zz 10 (.alloc 185) 0, some (none, .store 185 (.tmp 10) (.tmp 36), 0, none), zz 11 (.assign (.tmp 37)) 36] := by kernel_rfl
theorem tS39 : (Try.prog.info? 39).map (·.size) = some 1 := by kernel_rfl
theorem tA39 : (Try.prog.underlying 39).map aggD = some false := by kernel_rfl
theorem cl111 : callable Try.f111 = true := by kernel_rfl
theorem P113_6 : (List.range (regOf Try.f113 6).size).map (pj (regOf Try.f113 6)) = [zz 38 (.move (.tmp 11)) 36, zz 39 (.binOp .eql 36 (.tmp 38) (.const (.int .i64 0)) 36) 4] := by kernel_rfl
theorem P113_7 : (List.range (regOf Try.f113 7).size).map (pj (regOf Try.f113 7)) = [zz 40 (.fieldAddr 185 (.tmp 10) 1) 0, zz 41 (.load 3 (.tmp 40)) 3, zz 42 (.build 191 #[(0, .const (.int .i64 1)), (1, .tmp 41), (2, .const (.bool true))]) 191, some (none, .store 191 (.tmp 8) (.tmp 42), 0, none), zz 9 (.assign (.const (.int .i64 0))) 36] := by kernel_rfl
theorem P113_8 : (List.range (regOf Try.f113 8).size).map (pj (regOf Try.f113 8)) = [zz 44 (.move (.tmp 3)) 4, zz 45 (.move (.tmp 44)) 4, some (some 46, .move (.tmp 2), 3, some (1, true)), some (some 47, .binOp .neq 3 (.tmp 46) (.const (.int .i64 (-1))) 3, 4, some (1, true)), zz 48 (.pick (.tmp 45) (.tmp 47) (.const (.bool false))) 4, zz 43 (.assign (.tmp 48)) 4] := by kernel_rfl
theorem g113_8_1 : dstOf (regOf Try.f113 8) 1 = some 45 := by kernel_rfl
theorem P113_10 : (List.range (regOf Try.f113 10).size).map (pj (regOf Try.f113 10)) = [zz 52 (.fieldAddr 41 (.tmp 4) 2) 0, zz 53 (.load 4 (.tmp 52)) 4, zz 54 (.move (.tmp 53)) 4, some (some 55, .fieldAddr 41 (.tmp 4) 1, 0, some (2, false)), some (some 56, .load 3 (.tmp 55), 3, some (2, false)), some (some 57, .binOp .eql 3 (.tmp 56) (.const (.int .i64 (-1))) 3, 4, some (2, false)), zz 58 (.pick (.tmp 54) (.const (.bool true)) (.tmp 57)) 4, zz 51 (.assign (.tmp 58)) 4] := by kernel_rfl
theorem tS4 : (Try.prog.info? 4).map (·.size) = some 1 := by kernel_rfl
theorem tA4 : (Try.prog.underlying 4).map aggD = some false := by kernel_rfl
theorem g113_10_2 : dstOf (regOf Try.f113 10) 2 = some 54 := by kernel_rfl
theorem P113_11 : (List.range (regOf Try.f113 11).size).map (pj (regOf Try.f113 11)) = [zz 59 (.build 191 #[(0, .const (.int .i64 4)), (1, .const (.int .i64 (-1))), (2, .const (.bool false))]) 191, some (none, .store 191 (.tmp 8) (.tmp 59), 0, none), zz 9 (.assign (.const (.int .i64 0))) 36] := by kernel_rfl
theorem P113_12 : (List.range (regOf Try.f113 12).size).map (pj (regOf Try.f113 12)) = [zz 60 (.fieldAddr 41 (.tmp 4) 1) 0, zz 61 (.load 3 (.tmp 60)) 3, zz 62 (.build 191 #[(0, .const (.int .i64 2)), (1, .tmp 61), (2, .const (.bool false))]) 191, some (none, .store 191 (.tmp 8) (.tmp 62), 0, none), zz 9 (.assign (.const (.int .i64 0))) 36] := by kernel_rfl
theorem P113_9 : (List.range (regOf Try.f113 9).size).map (pj (regOf Try.f113 9)) = [zz 49 (.move (.tmp 2)) 3, zz 50 (.build 191 #[(0, .const (.int .i64 3)), (1, .tmp 49), (2, .const (.bool true))]) 191, some (none, .store 191 (.tmp 8) (.tmp 50), 0, none), zz 9 (.assign (.const (.int .i64 0))) 36] := by kernel_rfl
theorem P113_2 : (List.range (regOf Try.f113 2).size).map (pj (regOf Try.f113 2)) = [zz 25 (.build 191 #[]) 191, some (none, .store 191 (.tmp 8) (.tmp 25), 0, none), zz 9 (.assign (.const (.int .i64 1))) 36] := by kernel_rfl
set_option maxHeartbeats 4000000 in
theorem next_any (nd pf : Int) (rt : Bool) (RV : Value) (v : Int → Int) (g : Int → Int × Int × Int) (er : Int) (tg fr : Int) (dn : Bool) (w : World) (hT : Tb RV v g er w (fun _ => False)) : Calls Try.prog 113 #[Value.agg #[Value.int .i64 nd, Value.int .i64 pf, Value.bool rt, RV], .int .i64 tg, .int .i64 fr, .bool dn] w fun e w' => e = .returned (hopV (nextF nd pf rt (v tg) tg fr dn)) ∧ Kp w w' (fun _ => False) := by
 have K_0 := Kp.refl w (fun _ => False)
 refine enter (args := [Value.agg #[Value.int .i64 nd, Value.int .i64 pf, Value.bool rt, RV], Value.int .i64 tg, Value.int .i64 fr, Value.bool dn]) (n := 63) Try.func113 body113 rfl rfl rfl ?_
 intro a hE
 refine c_reg R113_0_l ?_
 refine p_cons (s_box (pl P113_0 0) hE wn_none rfl rfl ?_)
 clear hE a; intro g1 w2 z3 B_g1 hk a hE
 replace B_g1 : w2.heap[g1]? = some (.cells #[Value.int .i64 nd, Value.int .i64 pf, Value.bool rt, RV] 41 (0, 0)) := B_g1
 have z_0_g1 := Nat.le_trans K_0.kept.1 z3
 replace K_0 := K_0.then_ hk (fun _ h => h.elim)
 clear hk
 refine p_cons (s_alloc (pl P113_0 1) hE wn_none rfl tZ191 ?_)
 clear hE a; intro g4 w5 z6 B_g4 hk a hE
 replace B_g4 : w5.heap[g4]? = some (.cells #[Value.int .i64 0, Value.int .i64 0, Value.bool false] 191 (0, 0)) := B_g4
 have n_g1_g4 : g1 ≠ g4 := ne_new B_g1 z6
 have z_0_g4 := Nat.le_trans K_0.kept.1 z6
 replace B_g1 := kp_blk B_g1 hk (fun h => h)
 replace K_0 := K_0.then_ hk (fun _ h => h.elim)
 clear hk
 refine q0 (pl P113_0 2) hE (st_assign rfl) ?_; clear hE a; intro a hE
 refine p_nil (x_norm (wp_seq (c_reg R113_1_l ?_)))
 refine q0 (pl P113_1 0) hE (st_loadN (off := 0) (k := 4) (vs := [Value.int .i64 nd, Value.int .i64 pf, Value.bool rt, RV]) tA41 tS41 rfl B_g1 rfl rfl) ?_; clear hE a; intro a hE
 refine p_cons (s_call (xs := [Operand.tmp 12]) (args := [Value.agg #[Value.int .i64 nd, Value.int .i64 pf, Value.bool rt, RV]]) (pl P113_1 1) hE wn_none rfl rfl Try.func29 cl29 (rcheck nd pf rt RV _) ?_)
 rintro e w7 ⟨rfl, hk⟩
 replace B_g1 := kp_blk B_g1 hk (fun h => h)
 replace B_g4 := kp_blk B_g4 hk (fun h => h)
 replace K_0 := K_0.then_ hk (fun _ h => h.elim)
 refine ⟨_, rfl, ?_⟩; clear hE a; intro a hE
 refine qn hE (rc (pl P113_1 2) (st_neq (b := (!(rightV nd pf))) rfl rfl (bif_ne _)) (rc (pl P113_1 3) (st_move rfl) rn)) ?_; clear hE a; intro a hE
 rcases Bool.eq_false_or_eq_true (rightV nd pf) with hb8 | hb8
 ·
  rw [hb8] at hE
  refine p_cons (s_still (pl P113_1 4) hE (wn_some g113_1_3 rfl rfl) rfl (st_move rfl) ?_); clear hE a; intro a hE
  refine p_cons (s_call (xs := [Operand.tmp 16]) (args := [Value.int .i64 tg]) (pl P113_1 5) hE (wn_some g113_1_3 rfl rfl) rfl rfl Try.func67 cl67 (pnode tg _) ?_)
  rintro e w9 ⟨rfl, hk⟩
  replace B_g1 := kp_blk B_g1 hk (fun h => h)
  replace B_g4 := kp_blk B_g4 hk (fun h => h)
  replace K_0 := K_0.then_ hk (fun _ h => h.elim)
  refine ⟨_, rfl, ?_⟩; clear hE a; intro a hE
  refine qn hE (rg (pl P113_1 6) (wn_some g113_1_3 rfl rfl) (st_not rfl rfl) (rc (pl P113_1 7) (st_pick rfl rfl) (rc (pl P113_1 8) (st_move rfl) rn))) ?_; clear hE a; intro a hE
  rcases Bool.eq_false_or_eq_true (nodeB tg) with hb10 | hb10
  ·
   rw [hb10] at hE
   refine p_cons (s_still (pl P113_1 9) hE (wn_some g113_1_8 rfl rfl) rfl (st_move rfl) ?_); clear hE a; intro a hE
   refine p_cons (s_call (xs := [Operand.tmp 21]) (args := [Value.int .i64 fr]) (pl P113_1 10) hE (wn_some g113_1_8 rfl rfl) rfl rfl Try.func68 cl68 (pper fr _) ?_)
   rintro e w11 ⟨rfl, hk⟩
   replace B_g1 := kp_blk B_g1 hk (fun h => h)
   replace B_g4 := kp_blk B_g4 hk (fun h => h)
   replace K_0 := K_0.then_ hk (fun _ h => h.elim)
   refine ⟨_, rfl, ?_⟩; clear hE a; intro a hE
   refine qn hE (rg (pl P113_1 11) (wn_some g113_1_8 rfl rfl) (st_not rfl rfl) (rc (pl P113_1 12) (st_pick rfl rfl) rn)) ?_; clear hE a; intro a hE
   refine p_nil (x_norm ?_)
   rcases Bool.eq_false_or_eq_true (perB fr) with hb12 | hb12
   ·
    rw [hb12] at hE
    refine c_cond (t := false) hE rfl ?_
    refine wp_skip (x_norm (wp_seq (c_reg R113_3_l ?_)))
    refine qn hE (rc (pl P113_3 0) (st_move rfl) (rc (pl P113_3 1) (st_fieldAddr Try.underlying41 rfl tS3 rfl rfl) (rc (pl P113_3 2) (st_load1 tA3 rfl ((blk_cell B_g1 0).trans rfl)) rn))) ?_; clear hE a; intro a hE
    rcases Decidable.em (tg = nd) with hc13 | hc13
    ·
     refine p_cons (s_still (v := Value.bool true) (pl P113_3 3) hE wn_none rfl (st_eql rfl rfl (decide_eq_true hc13)) ?_); clear hE a; intro a hE
     refine p_nil (x_norm ?_)
     refine c_cond (t := true) hE rfl ?_
     refine c_reg R113_4_l ?_
     refine q0 (pl P113_4 0) hE (st_build (xs := [(0, Operand.const (Value.int IntKind.i64 0)), (1, Operand.const (Value.int IntKind.i64 (-1))), (2, Operand.const (Value.bool false))]) (vs := [(0, Value.int .i64 0), (1, Value.int .i64 (-1)), (2, Value.bool false)]) (cs := #[Value.int .i64 0, Value.int .i64 (-1), Value.bool false]) rfl (by kernel_rfl)) ?_; clear hE a; intro a hE
     refine p_cons (s_store (off := 0) (k := 3) (cs' := #[Value.int .i64 0, Value.int .i64 (-1), Value.bool false]) (pl P113_4 1) hE wn_none tS191 rfl rfl rfl rfl B_g4 (Nat.le_of_ble_eq_true rfl) rfl ?_)
     intro w14 B_g4' hk
     replace B_g1 := kp_blk B_g1 hk n_g1_g4
     replace K_0 := K_0.then_ hk (fun k h => by rw [show k = g4 from h]; exact Or.inr z_0_g4)
     replace B_g4 := B_g4'
     clear hk
     refine q0 (pl P113_4 2) hE (st_assign rfl) ?_; clear hE a; intro a hE
     refine p_nil (x_norm (wp_ret (x_ret ?_)))
     refine ret_list (rs := [.cell 8 191, .tmp 9]) (vs := [Value.agg #[Value.int .i64 0, Value.int .i64 (-1), Value.bool false], Value.int .i64 0]) rfl hE (.cellN (us := [Value.int .i64 0, Value.int .i64 (-1), Value.bool false]) tA191 tS191 rfl B_g4 rfl (.tmp rfl .nil)) rfl ?_
     have e0 : (rightV nd pf && nodeB tg && perB fr) = true := by
      simp only [hb8, hb10, hb12, decide_eq_true hc13, Bool.and_true, Bool.true_and, Bool.and_false, Bool.false_and, Bool.or_true, Bool.true_or, Bool.or_false, Bool.false_or, Bool.not_true, Bool.not_false, Bool.and_self, Bool.or_self]
     exact ⟨by unfold nextF; rw [if_pos e0, if_pos hc13]; rfl, K_0⟩
    ·
     refine p_cons (s_still (v := Value.bool false) (pl P113_3 3) hE wn_none rfl (st_eql rfl rfl (decide_eq_false hc13)) ?_); clear hE a; intro a hE
     refine p_nil (x_norm ?_)
     refine c_cond (t := false) hE rfl ?_
     refine wp_skip (x_norm (wp_seq ?_))
     rcases Decidable.em (0 ≤ v tg) with hHAS | hHAS
     ·
      refine c_reg R113_5_l ?_
      refine qn hE (rc (pl P113_5 0) (st_fieldAddr Try.underlying41 rfl tS39 rfl rfl) (rc (pl P113_5 1) (st_load1 tA39 rfl ((blk_cell B_g1 3).trans rfl)) (rc (pl P113_5 2) (st_move rfl) rn))) ?_; clear hE a; intro a hE
      refine p_cons (s_call (xs := [Operand.tmp 33, Operand.tmp 34]) (args := [RV, Value.int .i64 tg]) (pl P113_5 3) hE wn_none rfl rfl Try.func111 cl111 (hT.yes tg hHAS _ K_0) ?_)
      rintro e w15 ⟨rfl, hk⟩
      replace B_g1 := kp_blk B_g1 hk (fun h => h)
      replace B_g4 := kp_blk B_g4 hk (fun h => h)
      replace K_0 := K_0.then_ hk (fun _ h => h.elim)
      refine ⟨_, rfl, ?_⟩; clear hE a; intro a hE
      refine qn hE (rc (pl P113_5 4) (st_move rfl) (rc (pl P113_5 5) (st_extract rfl rfl) (rc (pl P113_5 6) (st_extract rfl rfl) rn))) ?_; clear hE a; intro a hE
      refine p_cons (s_alloc (pl P113_5 7) hE wn_none rfl tZ185 ?_)
      clear hE a; intro g16 w17 z18 B_g16 hk a hE
      replace B_g16 : w17.heap[g16]? = some (.cells #[Value.int .i64 0, Value.int .i64 0, Value.int .i64 0, Value.int .i64 0] 185 (0, 0)) := B_g16
      have n_g1_g16 : g1 ≠ g16 := ne_new B_g1 z18
      have n_g4_g16 : g4 ≠ g16 := ne_new B_g4 z18
      have z_0_g16 := Nat.le_trans K_0.kept.1 z18
      replace B_g1 := kp_blk B_g1 hk (fun h => h)
      replace B_g4 := kp_blk B_g4 hk (fun h => h)
      replace K_0 := K_0.then_ hk (fun _ h => h.elim)
      clear hk
      refine p_cons (s_store (off := 0) (k := 4) (cs' := #[Value.int .i64 ((g tg).1), Value.int .i64 (v tg), Value.int .i64 ((g tg).2.1), Value.int .i64 ((g tg).2.2)]) (pl P113_5 8) hE wn_none tS185 rfl rfl rfl rfl B_g16 (Nat.le_of_ble_eq_true rfl) rfl ?_)
      intro w19 B_g16' hk
      replace B_g1 := kp_blk B_g1 hk n_g1_g16
      replace B_g4 := kp_blk B_g4 hk n_g4_g16
      replace K_0 := K_0.then_ hk (fun k h => by rw [show k = g16 from h]; exact Or.inr z_0_g16)
      replace B_g16 := B_g16'
      clear hk
      refine q0 (pl P113_5 9) hE (st_assign rfl) ?_; clear hE a; intro a hE
      refine p_nil (x_norm (c_reg R113_6_l ?_))
      refine qn hE (rc (pl P113_6 0) (st_move rfl) (rc (pl P113_6 1) (st_eql (b := true) rfl rfl (by decide)) rn)) ?_; clear hE a; intro a hE
      refine p_nil (x_norm ?_)
      refine c_cond (t := true) hE rfl ?_
      refine c_reg R113_7_l ?_
      refine qn hE (rc (pl P113_7 0) (st_fieldAddr Try.underlying185 rfl tS3 rfl rfl) (rc (pl P113_7 1) (st_load1 tA3 rfl ((blk_cell B_g16 1).trans rfl)) (rc (pl P113_7 2) (st_build (xs := [(0, Operand.const (Value.int IntKind.i64 1)), (1, Operand.tmp 41), (2, Operand.const (Value.bool true))]) (vs := [(0, Value.int .i64 1), (1, Value.int .i64 (v tg)), (2, Value.bool true)]) (cs := #[Value.int .i64 1, Value.int .i64 (v tg), Value.bool true]) rfl (by kernel_rfl)) rn))) ?_; clear hE a; intro a hE
      refine p_cons (s_store (off := 0) (k := 3) (cs' := #[Value.int .i64 1, Value.int .i64 (v tg), Value.bool true]) (pl P113_7 3) hE wn_none tS191 rfl rfl rfl rfl B_g4 (Nat.le_of_ble_eq_true rfl) rfl ?_)
      intro w20 B_g4' hk
      replace B_g1 := kp_blk B_g1 hk n_g1_g4
      replace B_g16 := kp_blk B_g16 hk (Ne.symm n_g4_g16)
      replace K_0 := K_0.then_ hk (fun k h => by rw [show k = g4 from h]; exact Or.inr z_0_g4)
      replace B_g4 := B_g4'
      clear hk
      refine q0 (pl P113_7 4) hE (st_assign rfl) ?_; clear hE a; intro a hE
      refine p_nil (x_norm (wp_ret (x_ret ?_)))
      refine ret_list (rs := [.cell 8 191, .tmp 9]) (vs := [Value.agg #[Value.int .i64 1, Value.int .i64 (v tg), Value.bool true], Value.int .i64 0]) rfl hE (.cellN (us := [Value.int .i64 1, Value.int .i64 (v tg), Value.bool true]) tA191 tS191 rfl B_g4 rfl (.tmp rfl .nil)) rfl ?_
      have e0 : (rightV nd pf && nodeB tg && perB fr) = true := by
       simp only [hb8, hb10, hb12, decide_eq_false hc13, Bool.and_true, Bool.true_and, Bool.and_false, Bool.false_and, Bool.or_true, Bool.true_or, Bool.or_false, Bool.false_or, Bool.not_true, Bool.not_false, Bool.and_self, Bool.or_self]
      exact ⟨by unfold nextF; rw [if_pos e0, if_neg hc13, if_pos hHAS]; rfl, K_0⟩
     ·
      refine c_reg R113_5_l ?_
      refine qn hE (rc (pl P113_5 0) (st_fieldAddr Try.underlying41 rfl tS39 rfl rfl) (rc (pl P113_5 1) (st_load1 tA39 rfl ((blk_cell B_g1 3).trans rfl)) (rc (pl P113_5 2) (st_move rfl) rn))) ?_; clear hE a; intro a hE
      refine p_cons (s_call (xs := [Operand.tmp 33, Operand.tmp 34]) (args := [RV, Value.int .i64 tg]) (pl P113_5 3) hE wn_none rfl rfl Try.func111 cl111 (hT.no tg hHAS _ K_0) ?_)
      rintro e w21 ⟨rfl, hk⟩
      replace B_g1 := kp_blk B_g1 hk (fun h => h)
      replace B_g4 := kp_blk B_g4 hk (fun h => h)
      replace K_0 := K_0.then_ hk (fun _ h => h.elim)
      refine ⟨_, rfl, ?_⟩; clear hE a; intro a hE
      refine qn hE (rc (pl P113_5 4) (st_move rfl) (rc (pl P113_5 5) (st_extract rfl rfl) (rc (pl P113_5 6) (st_extract rfl rfl) rn))) ?_; clear hE a; intro a hE
      refine p_cons (s_alloc (pl P113_5 7) hE wn_none rfl tZ185 ?_)
      clear hE a; intro g22 w23 z24 B_g22 hk a hE
      replace B_g22 : w23.heap[g22]? = some (.cells #[Value.int .i64 0, Value.int .i64 0, Value.int .i64 0, Value.int .i64 0] 185 (0, 0)) := B_g22
      have n_g1_g22 : g1 ≠ g22 := ne_new B_g1 z24
      have n_g4_g22 : g4 ≠ g22 := ne_new B_g4 z24
      have z_0_g22 := Nat.le_trans K_0.kept.1 z24
      replace B_g1 := kp_blk B_g1 hk (fun h => h)
      replace B_g4 := kp_blk B_g4 hk (fun h => h)
      replace K_0 := K_0.then_ hk (fun _ h => h.elim)
      clear hk
      refine p_cons (s_store (off := 0) (k := 4) (cs' := #[Value.int .i64 0, Value.int .i64 0, Value.int .i64 0, Value.int .i64 0]) (pl P113_5 8) hE wn_none tS185 rfl rfl rfl rfl B_g22 (Nat.le_of_ble_eq_true rfl) rfl ?_)
      intro w25 B_g22' hk
      replace B_g1 := kp_blk B_g1 hk n_g1_g22
      replace B_g4 := kp_blk B_g4 hk n_g4_g22
      replace K_0 := K_0.then_ hk (fun k h => by rw [show k = g22 from h]; exact Or.inr z_0_g22)
      replace B_g22 := B_g22'
      clear hk
      refine q0 (pl P113_5 9) hE (st_assign rfl) ?_; clear hE a; intro a hE
      refine p_nil (x_norm (c_reg R113_6_l ?_))
      refine qn hE (rc (pl P113_6 0) (st_move rfl) (rc (pl P113_6 1) (st_eql (b := false) rfl rfl (decide_eq_false hT.er)) rn)) ?_; clear hE a; intro a hE
      refine p_nil (x_norm ?_)
      refine c_cond (t := false) hE rfl ?_
      refine wp_skip (x_norm (wp_seq (wp_block (c_reg R113_8_l ?_))))
      refine qn hE (rc (pl P113_8 0) (st_move rfl) (rc (pl P113_8 1) (st_move rfl) rn)) ?_; clear hE a; intro a hE
      rcases Bool.eq_false_or_eq_true dn with hb26 | hb26
      ·
       rw [hb26] at hE
       refine p_cons (s_still (pl P113_8 2) hE (wn_some g113_8_1 rfl rfl) rfl (st_move rfl) ?_); clear hE a; intro a hE
       rcases Decidable.em (fr = -1) with hc27 | hc27
       ·
        refine qn hE (rg (v := Value.bool false) (pl P113_8 3) (wn_some g113_8_1 rfl rfl) (st_neq rfl rfl (by rw [decide_eq_true hc27]; rfl)) (rc (pl P113_8 4) (st_pick rfl rfl) (rc (pl P113_8 5) (st_assign rfl) rn))) ?_; clear hE a; intro a hE
        refine p_nil (x_norm ?_)
        refine c_cond (t := false) hE rfl ?_
        refine c_reg R113_10_l ?_
        refine qn hE (rc (pl P113_10 0) (st_fieldAddr Try.underlying41 rfl tS4 rfl rfl) (rc (pl P113_10 1) (st_load1 tA4 rfl ((blk_cell B_g1 2).trans rfl)) (rc (pl P113_10 2) (st_move rfl) rn))) ?_; clear hE a; intro a hE
        rcases Bool.eq_false_or_eq_true rt with hb28 | hb28
        ·
         rw [hb28] at hE
         refine qn hE (Ds.rk (pl P113_10 3) (wn_some g113_10_2 rfl rfl) (Ds.rk (pl P113_10 4) (wn_some g113_10_2 rfl rfl) (Ds.rk (pl P113_10 5) (wn_some g113_10_2 rfl rfl) (rc (pl P113_10 6) (st_pick rfl rfl) (rc (pl P113_10 7) (st_assign rfl) rn))))) ?_; clear hE a; intro a hE
         refine p_nil (x_norm ?_)
         refine c_cond (t := true) hE rfl ?_
         refine c_reg R113_11_l ?_
         refine q0 (pl P113_11 0) hE (st_build (xs := [(0, Operand.const (Value.int IntKind.i64 4)), (1, Operand.const (Value.int IntKind.i64 (-1))), (2, Operand.const (Value.bool false))]) (vs := [(0, Value.int .i64 4), (1, Value.int .i64 (-1)), (2, Value.bool false)]) (cs := #[Value.int .i64 4, Value.int .i64 (-1), Value.bool false]) rfl (by kernel_rfl)) ?_; clear hE a; intro a hE
         refine p_cons (s_store (off := 0) (k := 3) (cs' := #[Value.int .i64 4, Value.int .i64 (-1), Value.bool false]) (pl P113_11 1) hE wn_none tS191 rfl rfl rfl rfl B_g4 (Nat.le_of_ble_eq_true rfl) rfl ?_)
         intro w29 B_g4' hk
         replace B_g1 := kp_blk B_g1 hk n_g1_g4
         replace B_g22 := kp_blk B_g22 hk (Ne.symm n_g4_g22)
         replace K_0 := K_0.then_ hk (fun k h => by rw [show k = g4 from h]; exact Or.inr z_0_g4)
         replace B_g4 := B_g4'
         clear hk
         refine q0 (pl P113_11 2) hE (st_assign rfl) ?_; clear hE a; intro a hE
         refine p_nil (x_norm (wp_ret (x_retB (x_ret ?_))))
         refine ret_list (rs := [.cell 8 191, .tmp 9]) (vs := [Value.agg #[Value.int .i64 4, Value.int .i64 (-1), Value.bool false], Value.int .i64 0]) rfl hE (.cellN (us := [Value.int .i64 4, Value.int .i64 (-1), Value.bool false]) tA191 tS191 rfl B_g4 rfl (.tmp rfl .nil)) rfl ?_
         have e0 : (rightV nd pf && nodeB tg && perB fr) = true := by
          simp only [hb8, hb10, hb12, hb26, hb28, decide_eq_false hc13, decide_eq_true hc27, Bool.and_true, Bool.true_and, Bool.and_false, Bool.false_and, Bool.or_true, Bool.true_or, Bool.or_false, Bool.false_or, Bool.not_true, Bool.not_false, Bool.and_self, Bool.or_self]
         have e1 : ¬ (dn && !decide (fr = -1)) = true := by
          simp only [hb8, hb10, hb12, hb26, hb28, decide_eq_false hc13, decide_eq_true hc27, Bool.and_true, Bool.true_and, Bool.and_false, Bool.false_and, Bool.or_true, Bool.true_or, Bool.or_false, Bool.false_or, Bool.not_true, Bool.not_false, Bool.and_self, Bool.or_self]; decide
         have e2 : (rt || decide (pf = -1)) = true := by simp only [hb8, hb10, hb12, hb26, hb28, decide_eq_false hc13, decide_eq_true hc27, Bool.and_true, Bool.true_and, Bool.and_false, Bool.false_and, Bool.or_true, Bool.true_or, Bool.or_false, Bool.false_or, Bool.not_true, Bool.not_false, Bool.and_self, Bool.or_self]
         exact ⟨by unfold nextF; rw [if_pos e0, if_neg hc13, if_neg hHAS, if_neg e1, if_pos e2]; rfl, K_0⟩
        ·
         rw [hb28] at hE
         refine qn hE (rg (pl P113_10 3) (wn_some g113_10_2 rfl rfl) (st_fieldAddr Try.underlying41 rfl tS3 rfl rfl) (rg (pl P113_10 4) (wn_some g113_10_2 rfl rfl) (st_load1 tA3 rfl ((blk_cell B_g1 1).trans rfl)) rn)) ?_; clear hE a; intro a hE
         rcases Decidable.em (pf = -1) with hc30 | hc30
         ·
          refine qn hE (rg (v := Value.bool true) (pl P113_10 5) (wn_some g113_10_2 rfl rfl) (st_eql rfl rfl (decide_eq_true hc30)) (rc (pl P113_10 6) (st_pick rfl rfl) (rc (pl P113_10 7) (st_assign rfl) rn))) ?_; clear hE a; intro a hE
          refine p_nil (x_norm ?_)
          refine c_cond (t := true) hE rfl ?_
          refine c_reg R113_11_l ?_
          refine q0 (pl P113_11 0) hE (st_build (xs := [(0, Operand.const (Value.int IntKind.i64 4)), (1, Operand.const (Value.int IntKind.i64 (-1))), (2, Operand.const (Value.bool false))]) (vs := [(0, Value.int .i64 4), (1, Value.int .i64 (-1)), (2, Value.bool false)]) (cs := #[Value.int .i64 4, Value.int .i64 (-1), Value.bool false]) rfl (by kernel_rfl)) ?_; clear hE a; intro a hE
          refine p_cons (s_store (off := 0) (k := 3) (cs' := #[Value.int .i64 4, Value.int .i64 (-1), Value.bool false]) (pl P113_11 1) hE wn_none tS191 rfl rfl rfl rfl B_g4 (Nat.le_of_ble_eq_true rfl) rfl ?_)
          intro w31 B_g4' hk
          replace B_g1 := kp_blk B_g1 hk n_g1_g4
          replace B_g22 := kp_blk B_g22 hk (Ne.symm n_g4_g22)
          replace K_0 := K_0.then_ hk (fun k h => by rw [show k = g4 from h]; exact Or.inr z_0_g4)
          replace B_g4 := B_g4'
          clear hk
          refine q0 (pl P113_11 2) hE (st_assign rfl) ?_; clear hE a; intro a hE
          refine p_nil (x_norm (wp_ret (x_retB (x_ret ?_))))
          refine ret_list (rs := [.cell 8 191, .tmp 9]) (vs := [Value.agg #[Value.int .i64 4, Value.int .i64 (-1), Value.bool false], Value.int .i64 0]) rfl hE (.cellN (us := [Value.int .i64 4, Value.int .i64 (-1), Value.bool false]) tA191 tS191 rfl B_g4 rfl (.tmp rfl .nil)) rfl ?_
          have e0 : (rightV nd pf && nodeB tg && perB fr) = true := by
           simp only [hb8, hb10, hb12, hb26, hb28, decide_eq_false hc13, decide_eq_true hc27, decide_eq_true hc30, Bool.and_true, Bool.true_and, Bool.and_false, Bool.false_and, Bool.or_true, Bool.true_or, Bool.or_false, Bool.false_or, Bool.not_true, Bool.not_false, Bool.and_self, Bool.or_self]
          have e1 : ¬ (dn && !decide (fr = -1)) = true := by
           simp only [hb8, hb10, hb12, hb26, hb28, decide_eq_false hc13, decide_eq_true hc27, decide_eq_true hc30, Bool.and_true, Bool.true_and, Bool.and_false, Bool.false_and, Bool.or_true, Bool.true_or, Bool.or_false, Bool.false_or, Bool.not_true, Bool.not_false, Bool.and_self, Bool.or_self]; decide
          have e2 : (rt || decide (pf = -1)) = true := by simp only [hb8, hb10, hb12, hb26, hb28, decide_eq_false hc13, decide_eq_true hc27, decide_eq_true hc30, Bool.and_true, Bool.true_and, Bool.and_false, Bool.false_and, Bool.or_true, Bool.true_or, Bool.or_false, Bool.false_or, Bool.not_true, Bool.not_false, Bool.and_self, Bool.or_self]
          exact ⟨by unfold nextF; rw [if_pos e0, if_neg hc13, if_neg hHAS, if_neg e1, if_pos e2]; rfl, K_0⟩
         ·
          refine qn hE (rg (v := Value.bool false) (pl P113_10 5) (wn_some g113_10_2 rfl rfl) (st_eql rfl rfl (decide_eq_false hc30)) (rc (pl P113_10 6) (st_pick rfl rfl) (rc (pl P113_10 7) (st_assign rfl) rn))) ?_; clear hE a; intro a hE
          refine p_nil (x_norm ?_)
          refine c_cond (t := false) hE rfl ?_
          refine wp_skip (x_normB (x_norm (c_reg R113_12_l ?_)))
          refine qn hE (rc (pl P113_12 0) (st_fieldAddr Try.underlying41 rfl tS3 rfl rfl) (rc (pl P113_12 1) (st_load1 tA3 rfl ((blk_cell B_g1 1).trans rfl)) (rc (pl P113_12 2) (st_build (xs := [(0, Operand.const (Value.int IntKind.i64 2)), (1, Operand.tmp 61), (2, Operand.const (Value.bool false))]) (vs := [(0, Value.int .i64 2), (1, Value.int .i64 pf), (2, Value.bool false)]) (cs := #[Value.int .i64 2, Value.int .i64 pf, Value.bool false]) rfl (by kernel_rfl)) rn))) ?_; clear hE a; intro a hE
          refine p_cons (s_store (off := 0) (k := 3) (cs' := #[Value.int .i64 2, Value.int .i64 pf, Value.bool false]) (pl P113_12 3) hE wn_none tS191 rfl rfl rfl rfl B_g4 (Nat.le_of_ble_eq_true rfl) rfl ?_)
          intro w32 B_g4' hk
          replace B_g1 := kp_blk B_g1 hk n_g1_g4
          replace B_g22 := kp_blk B_g22 hk (Ne.symm n_g4_g22)
          replace K_0 := K_0.then_ hk (fun k h => by rw [show k = g4 from h]; exact Or.inr z_0_g4)
          replace B_g4 := B_g4'
          clear hk
          refine q0 (pl P113_12 4) hE (st_assign rfl) ?_; clear hE a; intro a hE
          refine p_nil (x_norm (wp_ret ?_))
          refine ret_list (rs := [.cell 8 191, .tmp 9]) (vs := [Value.agg #[Value.int .i64 2, Value.int .i64 pf, Value.bool false], Value.int .i64 0]) rfl hE (.cellN (us := [Value.int .i64 2, Value.int .i64 pf, Value.bool false]) tA191 tS191 rfl B_g4 rfl (.tmp rfl .nil)) rfl ?_
          have e0 : (rightV nd pf && nodeB tg && perB fr) = true := by
           simp only [hb8, hb10, hb12, hb26, hb28, decide_eq_false hc13, decide_eq_true hc27, decide_eq_false hc30, Bool.and_true, Bool.true_and, Bool.and_false, Bool.false_and, Bool.or_true, Bool.true_or, Bool.or_false, Bool.false_or, Bool.not_true, Bool.not_false, Bool.and_self, Bool.or_self]
          have e1 : ¬ (dn && !decide (fr = -1)) = true := by
           simp only [hb8, hb10, hb12, hb26, hb28, decide_eq_false hc13, decide_eq_true hc27, decide_eq_false hc30, Bool.and_true, Bool.true_and, Bool.and_false, Bool.false_and, Bool.or_true, Bool.true_or, Bool.or_false, Bool.false_or, Bool.not_true, Bool.not_false, Bool.and_self, Bool.or_self]; decide
          have e2 : ¬ (rt || decide (pf = -1)) = true := by simp only [hb8, hb10, hb12, hb26, hb28, decide_eq_false hc13, decide_eq_true hc27, decide_eq_false hc30, Bool.and_true, Bool.true_and, Bool.and_false, Bool.false_and, Bool.or_true, Bool.true_or, Bool.or_false, Bool.false_or, Bool.not_true, Bool.not_false, Bool.and_self, Bool.or_self]; decide
          exact ⟨by unfold nextF; rw [if_pos e0, if_neg hc13, if_neg hHAS, if_neg e1, if_neg e2]; rfl, K_0⟩
       ·
        refine qn hE (rg (v := Value.bool true) (pl P113_8 3) (wn_some g113_8_1 rfl rfl) (st_neq rfl rfl (by rw [decide_eq_false hc27]; rfl)) (rc (pl P113_8 4) (st_pick rfl rfl) (rc (pl P113_8 5) (st_assign rfl) rn))) ?_; clear hE a; intro a hE
        refine p_nil (x_norm ?_)
        refine c_cond (t := true) hE rfl ?_
        refine c_reg R113_9_l ?_
        refine qn hE (rc (pl P113_9 0) (st_move rfl) (rc (pl P113_9 1) (st_build (xs := [(0, Operand.const (Value.int IntKind.i64 3)), (1, Operand.tmp 49), (2, Operand.const (Value.bool true))]) (vs := [(0, Value.int .i64 3), (1, Value.int .i64 fr), (2, Value.bool true)]) (cs := #[Value.int .i64 3, Value.int .i64 fr, Value.bool true]) rfl (by kernel_rfl)) rn)) ?_; clear hE a; intro a hE
        refine p_cons (s_store (off := 0) (k := 3) (cs' := #[Value.int .i64 3, Value.int .i64 fr, Value.bool true]) (pl P113_9 2) hE wn_none tS191 rfl rfl rfl rfl B_g4 (Nat.le_of_ble_eq_true rfl) rfl ?_)
        intro w33 B_g4' hk
        replace B_g1 := kp_blk B_g1 hk n_g1_g4
        replace B_g22 := kp_blk B_g22 hk (Ne.symm n_g4_g22)
        replace K_0 := K_0.then_ hk (fun k h => by rw [show k = g4 from h]; exact Or.inr z_0_g4)
        replace B_g4 := B_g4'
        clear hk
        refine q0 (pl P113_9 3) hE (st_assign rfl) ?_; clear hE a; intro a hE
        refine p_nil (x_norm (wp_ret (x_retB (x_ret ?_))))
        refine ret_list (rs := [.cell 8 191, .tmp 9]) (vs := [Value.agg #[Value.int .i64 3, Value.int .i64 fr, Value.bool true], Value.int .i64 0]) rfl hE (.cellN (us := [Value.int .i64 3, Value.int .i64 fr, Value.bool true]) tA191 tS191 rfl B_g4 rfl (.tmp rfl .nil)) rfl ?_
        have e0 : (rightV nd pf && nodeB tg && perB fr) = true := by
         simp only [hb8, hb10, hb12, hb26, decide_eq_false hc13, decide_eq_false hc27, Bool.and_true, Bool.true_and, Bool.and_false, Bool.false_and, Bool.or_true, Bool.true_or, Bool.or_false, Bool.false_or, Bool.not_true, Bool.not_false, Bool.and_self, Bool.or_self]
        have e1 : (dn && !decide (fr = -1)) = true := by simp only [hb8, hb10, hb12, hb26, decide_eq_false hc13, decide_eq_false hc27, Bool.and_true, Bool.true_and, Bool.and_false, Bool.false_and, Bool.or_true, Bool.true_or, Bool.or_false, Bool.false_or, Bool.not_true, Bool.not_false, Bool.and_self, Bool.or_self]
        exact ⟨by unfold nextF; rw [if_pos e0, if_neg hc13, if_neg hHAS, if_pos e1]; rfl, K_0⟩
      ·
       rw [hb26] at hE
       refine qn hE (Ds.rk (pl P113_8 2) (wn_some g113_8_1 rfl rfl) (Ds.rk (pl P113_8 3) (wn_some g113_8_1 rfl rfl) (rc (pl P113_8 4) (st_pick rfl rfl) (rc (pl P113_8 5) (st_assign rfl) rn)))) ?_; clear hE a; intro a hE
       refine p_nil (x_norm ?_)
       refine c_cond (t := false) hE rfl ?_
       refine c_reg R113_10_l ?_
       refine qn hE (rc (pl P113_10 0) (st_fieldAddr Try.underlying41 rfl tS4 rfl rfl) (rc (pl P113_10 1) (st_load1 tA4 rfl ((blk_cell B_g1 2).trans rfl)) (rc (pl P113_10 2) (st_move rfl) rn))) ?_; clear hE a; intro a hE
       rcases Bool.eq_false_or_eq_true rt with hb34 | hb34
       ·
        rw [hb34] at hE
        refine qn hE (Ds.rk (pl P113_10 3) (wn_some g113_10_2 rfl rfl) (Ds.rk (pl P113_10 4) (wn_some g113_10_2 rfl rfl) (Ds.rk (pl P113_10 5) (wn_some g113_10_2 rfl rfl) (rc (pl P113_10 6) (st_pick rfl rfl) (rc (pl P113_10 7) (st_assign rfl) rn))))) ?_; clear hE a; intro a hE
        refine p_nil (x_norm ?_)
        refine c_cond (t := true) hE rfl ?_
        refine c_reg R113_11_l ?_
        refine q0 (pl P113_11 0) hE (st_build (xs := [(0, Operand.const (Value.int IntKind.i64 4)), (1, Operand.const (Value.int IntKind.i64 (-1))), (2, Operand.const (Value.bool false))]) (vs := [(0, Value.int .i64 4), (1, Value.int .i64 (-1)), (2, Value.bool false)]) (cs := #[Value.int .i64 4, Value.int .i64 (-1), Value.bool false]) rfl (by kernel_rfl)) ?_; clear hE a; intro a hE
        refine p_cons (s_store (off := 0) (k := 3) (cs' := #[Value.int .i64 4, Value.int .i64 (-1), Value.bool false]) (pl P113_11 1) hE wn_none tS191 rfl rfl rfl rfl B_g4 (Nat.le_of_ble_eq_true rfl) rfl ?_)
        intro w35 B_g4' hk
        replace B_g1 := kp_blk B_g1 hk n_g1_g4
        replace B_g22 := kp_blk B_g22 hk (Ne.symm n_g4_g22)
        replace K_0 := K_0.then_ hk (fun k h => by rw [show k = g4 from h]; exact Or.inr z_0_g4)
        replace B_g4 := B_g4'
        clear hk
        refine q0 (pl P113_11 2) hE (st_assign rfl) ?_; clear hE a; intro a hE
        refine p_nil (x_norm (wp_ret (x_retB (x_ret ?_))))
        refine ret_list (rs := [.cell 8 191, .tmp 9]) (vs := [Value.agg #[Value.int .i64 4, Value.int .i64 (-1), Value.bool false], Value.int .i64 0]) rfl hE (.cellN (us := [Value.int .i64 4, Value.int .i64 (-1), Value.bool false]) tA191 tS191 rfl B_g4 rfl (.tmp rfl .nil)) rfl ?_
        have e0 : (rightV nd pf && nodeB tg && perB fr) = true := by
         simp only [hb8, hb10, hb12, hb26, hb34, decide_eq_false hc13, Bool.and_true, Bool.true_and, Bool.and_false, Bool.false_and, Bool.or_true, Bool.true_or, Bool.or_false, Bool.false_or, Bool.not_true, Bool.not_false, Bool.and_self, Bool.or_self]
        have e1 : ¬ (dn && !decide (fr = -1)) = true := by
         simp only [hb8, hb10, hb12, hb26, hb34, decide_eq_false hc13, Bool.and_true, Bool.true_and, Bool.and_false, Bool.false_and, Bool.or_true, Bool.true_or, Bool.or_false, Bool.false_or, Bool.not_true, Bool.not_false, Bool.and_self, Bool.or_self]; decide
        have e2 : (rt || decide (pf = -1)) = true := by simp only [hb8, hb10, hb12, hb26, hb34, decide_eq_false hc13, Bool.and_true, Bool.true_and, Bool.and_false, Bool.false_and, Bool.or_true, Bool.true_or, Bool.or_false, Bool.false_or, Bool.not_true, Bool.not_false, Bool.and_self, Bool.or_self]
        exact ⟨by unfold nextF; rw [if_pos e0, if_neg hc13, if_neg hHAS, if_neg e1, if_pos e2]; rfl, K_0⟩
       ·
        rw [hb34] at hE
        refine qn hE (rg (pl P113_10 3) (wn_some g113_10_2 rfl rfl) (st_fieldAddr Try.underlying41 rfl tS3 rfl rfl) (rg (pl P113_10 4) (wn_some g113_10_2 rfl rfl) (st_load1 tA3 rfl ((blk_cell B_g1 1).trans rfl)) rn)) ?_; clear hE a; intro a hE
        rcases Decidable.em (pf = -1) with hc36 | hc36
        ·
         refine qn hE (rg (v := Value.bool true) (pl P113_10 5) (wn_some g113_10_2 rfl rfl) (st_eql rfl rfl (decide_eq_true hc36)) (rc (pl P113_10 6) (st_pick rfl rfl) (rc (pl P113_10 7) (st_assign rfl) rn))) ?_; clear hE a; intro a hE
         refine p_nil (x_norm ?_)
         refine c_cond (t := true) hE rfl ?_
         refine c_reg R113_11_l ?_
         refine q0 (pl P113_11 0) hE (st_build (xs := [(0, Operand.const (Value.int IntKind.i64 4)), (1, Operand.const (Value.int IntKind.i64 (-1))), (2, Operand.const (Value.bool false))]) (vs := [(0, Value.int .i64 4), (1, Value.int .i64 (-1)), (2, Value.bool false)]) (cs := #[Value.int .i64 4, Value.int .i64 (-1), Value.bool false]) rfl (by kernel_rfl)) ?_; clear hE a; intro a hE
         refine p_cons (s_store (off := 0) (k := 3) (cs' := #[Value.int .i64 4, Value.int .i64 (-1), Value.bool false]) (pl P113_11 1) hE wn_none tS191 rfl rfl rfl rfl B_g4 (Nat.le_of_ble_eq_true rfl) rfl ?_)
         intro w37 B_g4' hk
         replace B_g1 := kp_blk B_g1 hk n_g1_g4
         replace B_g22 := kp_blk B_g22 hk (Ne.symm n_g4_g22)
         replace K_0 := K_0.then_ hk (fun k h => by rw [show k = g4 from h]; exact Or.inr z_0_g4)
         replace B_g4 := B_g4'
         clear hk
         refine q0 (pl P113_11 2) hE (st_assign rfl) ?_; clear hE a; intro a hE
         refine p_nil (x_norm (wp_ret (x_retB (x_ret ?_))))
         refine ret_list (rs := [.cell 8 191, .tmp 9]) (vs := [Value.agg #[Value.int .i64 4, Value.int .i64 (-1), Value.bool false], Value.int .i64 0]) rfl hE (.cellN (us := [Value.int .i64 4, Value.int .i64 (-1), Value.bool false]) tA191 tS191 rfl B_g4 rfl (.tmp rfl .nil)) rfl ?_
         have e0 : (rightV nd pf && nodeB tg && perB fr) = true := by
          simp only [hb8, hb10, hb12, hb26, hb34, decide_eq_false hc13, decide_eq_true hc36, Bool.and_true, Bool.true_and, Bool.and_false, Bool.false_and, Bool.or_true, Bool.true_or, Bool.or_false, Bool.false_or, Bool.not_true, Bool.not_false, Bool.and_self, Bool.or_self]
         have e1 : ¬ (dn && !decide (fr = -1)) = true := by
          simp only [hb8, hb10, hb12, hb26, hb34, decide_eq_false hc13, decide_eq_true hc36, Bool.and_true, Bool.true_and, Bool.and_false, Bool.false_and, Bool.or_true, Bool.true_or, Bool.or_false, Bool.false_or, Bool.not_true, Bool.not_false, Bool.and_self, Bool.or_self]; decide
         have e2 : (rt || decide (pf = -1)) = true := by simp only [hb8, hb10, hb12, hb26, hb34, decide_eq_false hc13, decide_eq_true hc36, Bool.and_true, Bool.true_and, Bool.and_false, Bool.false_and, Bool.or_true, Bool.true_or, Bool.or_false, Bool.false_or, Bool.not_true, Bool.not_false, Bool.and_self, Bool.or_self]
         exact ⟨by unfold nextF; rw [if_pos e0, if_neg hc13, if_neg hHAS, if_neg e1, if_pos e2]; rfl, K_0⟩
        ·
         refine qn hE (rg (v := Value.bool false) (pl P113_10 5) (wn_some g113_10_2 rfl rfl) (st_eql rfl rfl (decide_eq_false hc36)) (rc (pl P113_10 6) (st_pick rfl rfl) (rc (pl P113_10 7) (st_assign rfl) rn))) ?_; clear hE a; intro a hE
         refine p_nil (x_norm ?_)
         refine c_cond (t := false) hE rfl ?_
         refine wp_skip (x_normB (x_norm (c_reg R113_12_l ?_)))
         refine qn hE (rc (pl P113_12 0) (st_fieldAddr Try.underlying41 rfl tS3 rfl rfl) (rc (pl P113_12 1) (st_load1 tA3 rfl ((blk_cell B_g1 1).trans rfl)) (rc (pl P113_12 2) (st_build (xs := [(0, Operand.const (Value.int IntKind.i64 2)), (1, Operand.tmp 61), (2, Operand.const (Value.bool false))]) (vs := [(0, Value.int .i64 2), (1, Value.int .i64 pf), (2, Value.bool false)]) (cs := #[Value.int .i64 2, Value.int .i64 pf, Value.bool false]) rfl (by kernel_rfl)) rn))) ?_; clear hE a; intro a hE
         refine p_cons (s_store (off := 0) (k := 3) (cs' := #[Value.int .i64 2, Value.int .i64 pf, Value.bool false]) (pl P113_12 3) hE wn_none tS191 rfl rfl rfl rfl B_g4 (Nat.le_of_ble_eq_true rfl) rfl ?_)
         intro w38 B_g4' hk
         replace B_g1 := kp_blk B_g1 hk n_g1_g4
         replace B_g22 := kp_blk B_g22 hk (Ne.symm n_g4_g22)
         replace K_0 := K_0.then_ hk (fun k h => by rw [show k = g4 from h]; exact Or.inr z_0_g4)
         replace B_g4 := B_g4'
         clear hk
         refine q0 (pl P113_12 4) hE (st_assign rfl) ?_; clear hE a; intro a hE
         refine p_nil (x_norm (wp_ret ?_))
         refine ret_list (rs := [.cell 8 191, .tmp 9]) (vs := [Value.agg #[Value.int .i64 2, Value.int .i64 pf, Value.bool false], Value.int .i64 0]) rfl hE (.cellN (us := [Value.int .i64 2, Value.int .i64 pf, Value.bool false]) tA191 tS191 rfl B_g4 rfl (.tmp rfl .nil)) rfl ?_
         have e0 : (rightV nd pf && nodeB tg && perB fr) = true := by
          simp only [hb8, hb10, hb12, hb26, hb34, decide_eq_false hc13, decide_eq_false hc36, Bool.and_true, Bool.true_and, Bool.and_false, Bool.false_and, Bool.or_true, Bool.true_or, Bool.or_false, Bool.false_or, Bool.not_true, Bool.not_false, Bool.and_self, Bool.or_self]
         have e1 : ¬ (dn && !decide (fr = -1)) = true := by
          simp only [hb8, hb10, hb12, hb26, hb34, decide_eq_false hc13, decide_eq_false hc36, Bool.and_true, Bool.true_and, Bool.and_false, Bool.false_and, Bool.or_true, Bool.true_or, Bool.or_false, Bool.false_or, Bool.not_true, Bool.not_false, Bool.and_self, Bool.or_self]; decide
         have e2 : ¬ (rt || decide (pf = -1)) = true := by simp only [hb8, hb10, hb12, hb26, hb34, decide_eq_false hc13, decide_eq_false hc36, Bool.and_true, Bool.true_and, Bool.and_false, Bool.false_and, Bool.or_true, Bool.true_or, Bool.or_false, Bool.false_or, Bool.not_true, Bool.not_false, Bool.and_self, Bool.or_self]; decide
         exact ⟨by unfold nextF; rw [if_pos e0, if_neg hc13, if_neg hHAS, if_neg e1, if_neg e2]; rfl, K_0⟩
   ·
    rw [hb12] at hE
    refine c_cond (t := true) hE rfl ?_
    refine c_reg R113_2_l ?_
    refine q0 (pl P113_2 0) hE (st_build (xs := []) (vs := []) (cs := #[Value.int .i64 0, Value.int .i64 0, Value.bool false]) rfl (by kernel_rfl)) ?_; clear hE a; intro a hE
    refine p_cons (s_store (off := 0) (k := 3) (cs' := #[Value.int .i64 0, Value.int .i64 0, Value.bool false]) (pl P113_2 1) hE wn_none tS191 rfl rfl rfl rfl B_g4 (Nat.le_of_ble_eq_true rfl) rfl ?_)
    intro w39 B_g4' hk
    replace B_g1 := kp_blk B_g1 hk n_g1_g4
    replace K_0 := K_0.then_ hk (fun k h => by rw [show k = g4 from h]; exact Or.inr z_0_g4)
    replace B_g4 := B_g4'
    clear hk
    refine q0 (pl P113_2 2) hE (st_assign rfl) ?_; clear hE a; intro a hE
    refine p_nil (x_norm (wp_ret (x_ret ?_)))
    refine ret_list (rs := [.cell 8 191, .tmp 9]) (vs := [Value.agg #[Value.int .i64 0, Value.int .i64 0, Value.bool false], Value.int .i64 1]) rfl hE (.cellN (us := [Value.int .i64 0, Value.int .i64 0, Value.bool false]) tA191 tS191 rfl B_g4 rfl (.tmp rfl .nil)) rfl ?_
    have e0 : (rightV nd pf && nodeB tg && perB fr) = false := by
     simp only [hb8, hb10, hb12, Bool.and_true, Bool.true_and, Bool.and_false, Bool.false_and, Bool.or_true, Bool.true_or, Bool.or_false, Bool.false_or, Bool.not_true, Bool.not_false, Bool.and_self, Bool.or_self]
    exact ⟨by unfold nextF; rw [e0]; rfl, K_0⟩
  ·
   rw [hb10] at hE
   refine qn hE (Ds.rk (pl P113_1 9) (wn_some g113_1_8 rfl rfl) (Ds.rk (pl P113_1 10) (wn_some g113_1_8 rfl rfl) (Ds.rk (pl P113_1 11) (wn_some g113_1_8 rfl rfl) (rc (pl P113_1 12) (st_pick rfl rfl) rn)))) ?_; clear hE a; intro a hE
   refine p_nil (x_norm ?_)
   refine c_cond (t := true) hE rfl ?_
   refine c_reg R113_2_l ?_
   refine q0 (pl P113_2 0) hE (st_build (xs := []) (vs := []) (cs := #[Value.int .i64 0, Value.int .i64 0, Value.bool false]) rfl (by kernel_rfl)) ?_; clear hE a; intro a hE
   refine p_cons (s_store (off := 0) (k := 3) (cs' := #[Value.int .i64 0, Value.int .i64 0, Value.bool false]) (pl P113_2 1) hE wn_none tS191 rfl rfl rfl rfl B_g4 (Nat.le_of_ble_eq_true rfl) rfl ?_)
   intro w40 B_g4' hk
   replace B_g1 := kp_blk B_g1 hk n_g1_g4
   replace K_0 := K_0.then_ hk (fun k h => by rw [show k = g4 from h]; exact Or.inr z_0_g4)
   replace B_g4 := B_g4'
   clear hk
   refine q0 (pl P113_2 2) hE (st_assign rfl) ?_; clear hE a; intro a hE
   refine p_nil (x_norm (wp_ret (x_ret ?_)))
   refine ret_list (rs := [.cell 8 191, .tmp 9]) (vs := [Value.agg #[Value.int .i64 0, Value.int .i64 0, Value.bool false], Value.int .i64 1]) rfl hE (.cellN (us := [Value.int .i64 0, Value.int .i64 0, Value.bool false]) tA191 tS191 rfl B_g4 rfl (.tmp rfl .nil)) rfl ?_
   have e0 : (rightV nd pf && nodeB tg && perB fr) = false := by
    simp only [hb8, hb10, Bool.and_true, Bool.true_and, Bool.and_false, Bool.false_and, Bool.or_true, Bool.true_or, Bool.or_false, Bool.false_or, Bool.not_true, Bool.not_false, Bool.and_self, Bool.or_self]
   exact ⟨by unfold nextF; rw [e0]; rfl, K_0⟩
 ·
  rw [hb8] at hE
  refine qn hE (Ds.rk (pl P113_1 4) (wn_some g113_1_3 rfl rfl) (Ds.rk (pl P113_1 5) (wn_some g113_1_3 rfl rfl) (Ds.rk (pl P113_1 6) (wn_some g113_1_3 rfl rfl) (rc (pl P113_1 7) (st_pick rfl rfl) (rc (pl P113_1 8) (st_move rfl) (Ds.rk (pl P113_1 9) (wn_some g113_1_8 rfl rfl) (Ds.rk (pl P113_1 10) (wn_some g113_1_8 rfl rfl) (Ds.rk (pl P113_1 11) (wn_some g113_1_8 rfl rfl) (rc (pl P113_1 12) (st_pick rfl rfl) rn))))))))) ?_; clear hE a; intro a hE
  refine p_nil (x_norm ?_)
  refine c_cond (t := true) hE rfl ?_
  refine c_reg R113_2_l ?_
  refine q0 (pl P113_2 0) hE (st_build (xs := []) (vs := []) (cs := #[Value.int .i64 0, Value.int .i64 0, Value.bool false]) rfl (by kernel_rfl)) ?_; clear hE a; intro a hE
  refine p_cons (s_store (off := 0) (k := 3) (cs' := #[Value.int .i64 0, Value.int .i64 0, Value.bool false]) (pl P113_2 1) hE wn_none tS191 rfl rfl rfl rfl B_g4 (Nat.le_of_ble_eq_true rfl) rfl ?_)
  intro w41 B_g4' hk
  replace B_g1 := kp_blk B_g1 hk n_g1_g4
  replace K_0 := K_0.then_ hk (fun k h => by rw [show k = g4 from h]; exact Or.inr z_0_g4)
  replace B_g4 := B_g4'
  clear hk
  refine q0 (pl P113_2 2) hE (st_assign rfl) ?_; clear hE a; intro a hE
  refine p_nil (x_norm (wp_ret (x_ret ?_)))
  refine ret_list (rs := [.cell 8 191, .tmp 9]) (vs := [Value.agg #[Value.int .i64 0, Value.int .i64 0, Value.bool false], Value.int .i64 1]) rfl hE (.cellN (us := [Value.int .i64 0, Value.int .i64 0, Value.bool false]) tA191 tS191 rfl B_g4 rfl (.tmp rfl .nil)) rfl ?_
  have e0 : (rightV nd pf && nodeB tg && perB fr) = false := by
   simp only [hb8, Bool.and_true, Bool.true_and, Bool.and_false, Bool.false_and, Bool.or_true, Bool.true_or, Bool.or_false, Bool.false_or, Bool.not_true, Bool.not_false, Bool.and_self, Bool.or_self]
  exact ⟨by unfold nextF; rw [e0]; rfl, K_0⟩
def validB (a b : Int) : Bool := decide (0 ≤ a ∧ a < 65536) && decide (0 ≤ b ∧ b < 65536)
theorem R108_0_l : List.range (regOf Try.f108 0).size = [0] := by kernel_rfl
theorem R108_1_l : List.range (regOf Try.f108 1).size = [0, 1, 2] := by kernel_rfl
theorem R108_2_l : List.range (regOf Try.f108 2).size = [0] := by kernel_rfl
theorem R108_3_l : List.range (regOf Try.f108 3).size = [0, 1, 2] := by kernel_rfl
theorem R108_4_l : List.range (regOf Try.f108 4).size = [0, 1, 2, 3, 4, 5] := by kernel_rfl
theorem R108_5_l : List.range (regOf Try.f108 5).size = [0] := by kernel_rfl
theorem R108_6_l : List.range (regOf Try.f108 6).size = [0, 1] := by kernel_rfl
theorem R108_7_l : List.range (regOf Try.f108 7).size = [0] := by kernel_rfl
theorem body108 : Try.f108.body = some (.seq (.region 0 (regOf Try.f108 0) false) (.seq (.seq (.region 1 (regOf Try.f108 1) false) (.block 0 (.loop (.seq (.region 2 (regOf Try.f108 2) false) (.seq (.cond (Operand.tmp 8) (.skip) (.exit 0)) (.seq (.block 1 (.seq (.region 3 (regOf Try.f108 3) false) (.seq (.region 4 (regOf Try.f108 4) false) (.cond (Operand.tmp 16) (.seq (.region 5 (regOf Try.f108 5) false) (.ret)) (.skip))))) (.region 6 (regOf Try.f108 6) false))))))) (.seq (.region 7 (regOf Try.f108 7) false) (.ret)))) := by kernel_rfl
theorem p108_0_0 : pj (regOf Try.f108 0) 0 = some (some 2, .assign (.const (.bool false)), 4, none) := by kernel_rfl
theorem P108_1 : (List.range (regOf Try.f108 1).size).map (pj (regOf Try.f108 1)) = [zz 5 (.move (.tmp 0)) 22, zz 6 (.call { callee := .builtin .len, args := #[.tmp 5], argTypes := #[22] }) 3, zz 7 (.move (.const (.int .i64 0))) 3] := by kernel_rfl
theorem p108_2_0 : pj (regOf Try.f108 2) 0 = some (some 8, .binOp .lss 3 (.tmp 7) (.tmp 6) 3, 0, none) := by kernel_rfl
theorem P108_3 : (List.range (regOf Try.f108 3).size).map (pj (regOf Try.f108 3)) = [zz 9 (.indexAddr 22 (.tmp 5) (.tmp 7)) 0, zz 10 (.load 3 (.tmp 9)) 3, zz 4 (.assign (.tmp 10)) 3] := by kernel_rfl
theorem P108_4 : (List.range (regOf Try.f108 4).size).map (pj (regOf Try.f108 4)) = [zz 11 (.move (.tmp 4)) 3, zz 12 (.binOp .lss 3 (.tmp 11) (.const (.int .i64 0)) 3) 4, zz 13 (.move (.tmp 12)) 4, some (some 14, .move (.tmp 4), 3, some (2, false)), some (some 15, .binOp .gtr 3 (.tmp 14) (.const (.int .i64 65535)) 3, 4, some (2, false)), zz 16 (.pick (.tmp 13) (.const (.bool true)) (.tmp 15)) 4] := by kernel_rfl
theorem g108_4_2 : dstOf (regOf Try.f108 4) 2 = some 13 := by kernel_rfl
theorem p108_5_0 : pj (regOf Try.f108 5) 0 = some (some 2, .assign (.const (.bool false)), 4, none) := by kernel_rfl
theorem P108_6 : (List.range (regOf Try.f108 6).size).map (pj (regOf Try.f108 6)) = [zz 17 (.binOp .add 3 (.tmp 7) (.const (.int .i64 1)) 3) 3, zz 7 (.move (.tmp 17)) 3] := by kernel_rfl
theorem p108_7_0 : pj (regOf Try.f108 7) 0 = some (some 2, .assign (.const (.bool true)), 4, none) := by kernel_rfl
set_option maxHeartbeats 4000000 in
theorem valid_2 (gI : Nat) (x y : Int) (w : World) (hB : w.heap[gI]? = some (.cells #[.int .i64 x, .int .i64 y] 3 (0, 0))) : Calls Try.prog 108 #[.slice (some ⟨gI, 0, none⟩) 2 2] w fun e w' => e = .returned (.bool (validB x y)) ∧ Kp w w' (fun _ => False) := by
 have K_0 := Kp.refl w (fun _ => False)
 have B_gI := hB
 refine enter (args := [Value.slice (some ⟨gI, 0, none⟩) 2 2]) (n := 18) Try.func108 body108 rfl rfl rfl ?_
 intro a hE
 refine c_reg R108_0_l ?_
 refine q0 p108_0_0 hE (st_assign rfl) ?_; clear hE a; intro a hE
 refine p_nil (x_norm (wp_seq (c_reg R108_1_l ?_)))
 refine qn hE (rc (pl P108_1 0) (st_move rfl) (rc (pl P108_1 1) (st_len Try.underlying22 rfl) (rc (pl P108_1 2) (st_move rfl) rn))) ?_; clear hE a; intro a hE
 refine p_nil (x_norm (wp_block ?_))
 refine wp_loop_rounds 3 ?_
 refine (Eq.mpr (rounds_succ (n := 2)) ?_)
 refine c_reg R108_2_l ?_
 refine q0 p108_2_0 hE (st_lss (b := true) rfl rfl (by decide)) ?_; clear hE a; intro a hE
 refine p_nil (x_norm (wp_seq ?_))
 refine c_cond (t := true) hE rfl ?_
 refine wp_skip (x_norm (wp_seq (wp_block (c_reg R108_3_l ?_))))
 refine qn hE (rc (pl P108_3 0) (st_indexAddr (i := 0) Try.underlying22 tS3 rfl rfl (by decide) rfl) (rc (pl P108_3 1) (st_load1 tA3 rfl ((blk_cell B_gI 0).trans rfl)) (rc (pl P108_3 2) (st_assign rfl) rn))) ?_; clear hE a; intro a hE
 refine p_nil (x_norm (c_reg R108_4_l ?_))
 refine q0 (pl P108_4 0) hE (st_move rfl) ?_; clear hE a; intro a hE
 rcases Decidable.em (x < 0) with hc1 | hc1
 ·
  refine qn hE (rg (v := Value.bool true) (pl P108_4 1) wn_none (st_lss rfl rfl (decide_eq_true hc1)) (rc (pl P108_4 2) (st_move rfl) (Ds.rk (pl P108_4 3) (wn_some g108_4_2 rfl rfl) (Ds.rk (pl P108_4 4) (wn_some g108_4_2 rfl rfl) (rc (pl P108_4 5) (st_pick rfl rfl) rn))))) ?_; clear hE a; intro a hE
  refine p_nil (x_norm ?_)
  refine c_cond (t := true) hE rfl ?_
  refine c_reg R108_5_l ?_
  refine q0 p108_5_0 hE (st_assign rfl) ?_; clear hE a; intro a hE
  refine p_nil (x_norm (wp_ret (x_retB (x_ret (x_ret (x_retB (x_ret ?_)))))))
  refine ret_one (v := Value.bool false) rfl hE (.tmp rfl .nil) ?_
  exact ⟨by unfold validB; first | rw [decide_eq_false (show ¬ (0 ≤ x ∧ x < 65536) by omega)]; rfl | rw [decide_eq_false (show ¬ (0 ≤ y ∧ y < 65536) by omega), Bool.and_false], K_0⟩
 ·
  refine qn hE (rg (v := Value.bool false) (pl P108_4 1) wn_none (st_lss rfl rfl (decide_eq_false hc1)) (rc (pl P108_4 2) (st_move rfl) (rg (pl P108_4 3) (wn_some g108_4_2 rfl rfl) (st_move rfl) rn))) ?_; clear hE a; intro a hE
  rcases Decidable.em (65535 < x) with hc2 | hc2
  ·
   refine qn hE (rg (v := Value.bool true) (pl P108_4 4) (wn_some g108_4_2 rfl rfl) (st_gtr rfl rfl (decide_eq_true hc2)) (rc (pl P108_4 5) (st_pick rfl rfl) rn)) ?_; clear hE a; intro a hE
   refine p_nil (x_norm ?_)
   refine c_cond (t := true) hE rfl ?_
   refine c_reg R108_5_l ?_
   refine q0 p108_5_0 hE (st_assign rfl) ?_; clear hE a; intro a hE
   refine p_nil (x_norm (wp_ret (x_retB (x_ret (x_ret (x_retB (x_ret ?_)))))))
   refine ret_one (v := Value.bool false) rfl hE (.tmp rfl .nil) ?_
   exact ⟨by unfold validB; first | rw [decide_eq_false (show ¬ (0 ≤ x ∧ x < 65536) by omega)]; rfl | rw [decide_eq_false (show ¬ (0 ≤ y ∧ y < 65536) by omega), Bool.and_false], K_0⟩
  ·
   refine qn hE (rg (v := Value.bool false) (pl P108_4 4) (wn_some g108_4_2 rfl rfl) (st_gtr rfl rfl (decide_eq_false hc2)) (rc (pl P108_4 5) (st_pick rfl rfl) rn)) ?_; clear hE a; intro a hE
   refine p_nil (x_norm ?_)
   refine c_cond (t := false) hE rfl ?_
   refine wp_skip (x_normB (x_norm (c_regL R108_6_l ?_)))
   refine qn hE (rc (pl P108_6 0) (st_add (z := 1) rfl rfl (by decide)) (rc (pl P108_6 1) (st_move rfl) rn)) ?_; clear hE a; intro a hE
   refine p_nil (x_norm ?_)
   refine (Eq.mpr (rounds_succ (n := 1)) ?_)
   refine c_reg R108_2_l ?_
   refine q0 p108_2_0 hE (st_lss (b := true) rfl rfl (by decide)) ?_; clear hE a; intro a hE
   refine p_nil (x_norm (wp_seq ?_))
   refine c_cond (t := true) hE rfl ?_
   refine wp_skip (x_norm (wp_seq (wp_block (c_reg R108_3_l ?_))))
   refine qn hE (rc (pl P108_3 0) (st_indexAddr (i := 1) Try.underlying22 tS3 rfl rfl (by decide) rfl) (rc (pl P108_3 1) (st_load1 tA3 rfl ((blk_cell B_gI 1).trans rfl)) (rc (pl P108_3 2) (st_assign rfl) rn))) ?_; clear hE a; intro a hE
   refine p_nil (x_norm (c_reg R108_4_l ?_))
   refine q0 (pl P108_4 0) hE (st_move rfl) ?_; clear hE a; intro a hE
   rcases Decidable.em (y < 0) with hc3 | hc3
   ·
    refine qn hE (rg (v := Value.bool true) (pl P108_4 1) wn_none (st_lss rfl rfl (decide_eq_true hc3)) (rc (pl P108_4 2) (st_move rfl) (Ds.rk (pl P108_4 3) (wn_some g108_4_2 rfl rfl) (Ds.rk (pl P108_4 4) (wn_some g108_4_2 rfl rfl) (rc (pl P108_4 5) (st_pick rfl rfl) rn))))) ?_; clear hE a; intro a hE
    refine p_nil (x_norm ?_)
    refine c_cond (t := true) hE rfl ?_
    refine c_reg R108_5_l ?_
    refine q0 p108_5_0 hE (st_assign rfl) ?_; clear hE a; intro a hE
    refine p_nil (x_norm (wp_ret (x_retB (x_ret (x_ret (x_retB (x_ret ?_)))))))
    refine ret_one (v := Value.bool false) rfl hE (.tmp rfl .nil) ?_
    exact ⟨by unfold validB; first | rw [decide_eq_false (show ¬ (0 ≤ x ∧ x < 65536) by omega)]; rfl | rw [decide_eq_false (show ¬ (0 ≤ y ∧ y < 65536) by omega), Bool.and_false], K_0⟩
   ·
    refine qn hE (rg (v := Value.bool false) (pl P108_4 1) wn_none (st_lss rfl rfl (decide_eq_false hc3)) (rc (pl P108_4 2) (st_move rfl) (rg (pl P108_4 3) (wn_some g108_4_2 rfl rfl) (st_move rfl) rn))) ?_; clear hE a; intro a hE
    rcases Decidable.em (65535 < y) with hc4 | hc4
    ·
     refine qn hE (rg (v := Value.bool true) (pl P108_4 4) (wn_some g108_4_2 rfl rfl) (st_gtr rfl rfl (decide_eq_true hc4)) (rc (pl P108_4 5) (st_pick rfl rfl) rn)) ?_; clear hE a; intro a hE
     refine p_nil (x_norm ?_)
     refine c_cond (t := true) hE rfl ?_
     refine c_reg R108_5_l ?_
     refine q0 p108_5_0 hE (st_assign rfl) ?_; clear hE a; intro a hE
     refine p_nil (x_norm (wp_ret (x_retB (x_ret (x_ret (x_retB (x_ret ?_)))))))
     refine ret_one (v := Value.bool false) rfl hE (.tmp rfl .nil) ?_
     exact ⟨by unfold validB; first | rw [decide_eq_false (show ¬ (0 ≤ x ∧ x < 65536) by omega)]; rfl | rw [decide_eq_false (show ¬ (0 ≤ y ∧ y < 65536) by omega), Bool.and_false], K_0⟩
    ·
     refine qn hE (rg (v := Value.bool false) (pl P108_4 4) (wn_some g108_4_2 rfl rfl) (st_gtr rfl rfl (decide_eq_false hc4)) (rc (pl P108_4 5) (st_pick rfl rfl) rn)) ?_; clear hE a; intro a hE
     refine p_nil (x_norm ?_)
     refine c_cond (t := false) hE rfl ?_
     refine wp_skip (x_normB (x_norm (c_regL R108_6_l ?_)))
     refine qn hE (rc (pl P108_6 0) (st_add (z := 2) rfl rfl (by decide)) (rc (pl P108_6 1) (st_move rfl) rn)) ?_; clear hE a; intro a hE
     refine p_nil (x_norm ?_)
     refine (Eq.mpr (rounds_succ (n := 0)) ?_)
     refine c_reg R108_2_l ?_
     refine q0 p108_2_0 hE (st_lss (b := false) rfl rfl (by decide)) ?_; clear hE a; intro a hE
     refine p_nil (x_norm (wp_seq ?_))
     refine c_cond (t := false) hE rfl ?_
     refine wp_exit (x_exit (x_exit (x_in (x_norm (c_reg R108_7_l ?_)))))
     refine q0 p108_7_0 hE (st_assign rfl) ?_; clear hE a; intro a hE
     refine p_nil (x_norm (wp_ret ?_))
     refine ret_one (v := Value.bool true) rfl hE (.tmp rfl .nil) ?_
     exact ⟨by unfold validB; rw [decide_eq_true (by omega), decide_eq_true (by omega)]; rfl, K_0⟩
end Go.Proofs.Ytijfocnneccccaa.Rx
