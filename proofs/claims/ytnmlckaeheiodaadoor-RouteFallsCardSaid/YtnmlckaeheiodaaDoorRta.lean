/- Package target: Check, New, Get, Learn. -/
import Derived.Test.YtnmlckaeheiodaaDoorChecked
import Derived.Test.YtnmlckaeheiodaaDoorLolr
import Derived.Test.YtnmlckaeheiodaaDoorMi
import Derived.Test.YtnmlckaeheiodaaDoorRdv
import Derived.LoopN
set_option maxRecDepth 100000
set_option linter.unusedVariables false
set_option linter.unusedSimpArgs false
namespace Go.Proofs.YtnmlckaeheiodaaDoor.Ra
open Go.RowKit Go.Proofs.YtnmlckaeheiodaaDoorW.PrintWords Go.Proofs.YtnmlckaeheiodaaDoor.Ds Go.Proofs.YtnmlckaeheiodaaDoor.Lol
open Go.Proofs.YtnmlckaeheiodaaDoor.Pk (Kp)
open Go.Proofs.YtnmlckaeheiodaaDoor.Mi (st_eqlP x_retS MapI getI putI)
/-- A route: its node, via, sequence, until. -/
abbrev R4 := Int × Int × Int × Int
def encR (o : R4) : Value := .agg #[.int .i64 o.1, .int .i64 o.2.1, .int .i64 o.2.2.1, .int .i64 o.2.2.2]
def nodeB (n : Int) : Bool := decide (0 ≤ n ∧ n < 64)
def seqB (n : Int) : Bool := decide (0 ≤ n ∧ n < 256)
def idxF (x y : Int) : Int := bif nodeB x then (bif nodeB y then -1 else 1) else 0
def okR (o : R4) : Bool := nodeB o.1 && nodeB o.2.1 && seqB o.2.2.1 && decide (0 ≤ o.2.2.2 ∧ o.2.2.2 ≤ 2305843009213693952)
def freshB (r o : R4) : Bool := decide (cmpF r.2.2.1 o.2.2.1 = 2) || (decide (r.2.2.1 = o.2.2.1) && decide (r.2.1 = o.2.1))
/-- What Learn leaves, below the table's bound. -/
def learnL (l : List (Int × R4)) (r : R4) : List (Int × R4) :=
 if okR r = true then (match getI l r.1 with | none => putI l r.1 r | some o => if freshB r o = true then putI l r.1 r else l) else l
def learnE (l : List (Int × R4)) (r : R4) : Int :=
 if okR r = true then (match getI l r.1 with | none => 0 | some o => if freshB r o = true then 0 else 9) else 1
theorem node_t {n : Int} (h0 : 0 ≤ n) (h1 : n < 64) : nodeB n = true := decide_eq_true ⟨h0, h1⟩
theorem node_f {n : Int} (h : ¬ (0 ≤ n ∧ n < 64)) : nodeB n = false := decide_eq_false h
theorem seq_t {n : Int} (h0 : 0 ≤ n) (h1 : n < 256) : seqB n = true := decide_eq_true ⟨h0, h1⟩
theorem seq_f {n : Int} (h : ¬ (0 ≤ n ∧ n < 256)) : seqB n = false := decide_eq_false h
theorem okR_b {o : R4} (h : okR o = true) : (0 ≤ o.1 ∧ o.1 < 64) ∧ (0 ≤ o.2.1 ∧ o.2.1 < 64) ∧ (0 ≤ o.2.2.1 ∧ o.2.2.1 < 256) ∧ 0 ≤ o.2.2.2 ∧ o.2.2.2 ≤ 2305843009213693952 := by
 unfold okR nodeB seqB at h
 simpa only [Bool.and_eq_true, decide_eq_true_eq, and_assoc] using h
theorem wf64 {x : Int} (h1 : -9223372036854775808 ≤ x) (h2 : x ≤ 9223372036854775807) : (Lit.int .i64 x).wf = true := by
 simp [Lit.wf, IntKind.min, IntKind.max, IntKind.signed, IntKind.bits]
 omega
theorem wn_undef {R : Array Oper} {m : List (Nat × Value)} {j : Nat} {want : Bool} {t : Nat} (hj : dstOf R j = some t) (hl : Go.Proofs.YtnmlckaeheiodaaDoor.Ds.look m t = some undef) : Wn R m (some (j, want)) false := fun n a hE o ho => by
 unfold Region.wanted
 rw [ho]
 simp only
 have h1 : yielded R a.tmps j = none := by
  unfold yielded
  unfold dstOf at hj
  rw [hj]
  simp [hE.get t _ hl, undef]
 rw [h1]
 rfl
theorem R51_0_l : List.range (regOf Tryd.f51 0).size = [0] := by kernel_rfl
theorem R51_1_l : List.range (regOf Tryd.f51 1).size = [0, 1, 2, 3, 4, 5, 6] := by kernel_rfl
theorem body51 : Tryd.f51.body = some (.seq (.region 0 (regOf Tryd.f51 0) false) (.seq (.region 1 (regOf Tryd.f51 1) false) (.ret))) := by kernel_rfl
theorem p51_0_0 : pj (regOf Tryd.f51 0) 0 = some (some 2, .assign (.const (.bool false)), 4, none) := by kernel_rfl
theorem P51_1 : (List.range (regOf Tryd.f51 1).size).map (pj (regOf Tryd.f51 1)) = [some (some 3, .move (.tmp 0), 3, none), some (some 4, .binOp .lss 3 (.tmp 3) (.const (.int .i64 0)) 3, 4, none), some (some 5, .move (.tmp 4), 4, none), some (some 6, .move (.tmp 0), 3, some (2, false)), some (some 7, .binOp .geq 3 (.tmp 6) (.const (.int .i64 64)) 3, 4, some (2, false)), some (some 8, .pick (.tmp 5) (.const (.bool true)) (.tmp 7), 4, none), some (some 2, .assign (.tmp 8), 4, none)] := by kernel_rfl
theorem g51_1_2 : dstOf (regOf Tryd.f51 1) 2 = some 5 := by kernel_rfl
set_option maxHeartbeats 4000000 in
theorem nd1 (n : Int) (w : World) : Calls Tryd.prog 51 #[.int .i64 n] w fun e w' => e = .returned (.bool (!nodeB n)) ∧ Kp w w' (fun _ => False) := by
 have K_0 := Kp.refl w (fun _ => False)
 refine enter (args := [Value.int .i64 n]) (n := 9) Tryd.func51 body51 rfl rfl rfl ?_
 intro a hE
 refine c_reg R51_0_l ?_
 refine q0 p51_0_0 hE (st_assign rfl) ?_; clear hE a; intro a hE
 refine p_nil (x_norm (c_reg R51_1_l ?_))
 refine q0 (pl P51_1 0) hE (st_move rfl) ?_; clear hE a; intro a hE
 rcases Decidable.em (n < 0) with hc1 | hc1
 ·
  refine qn hE (rg (v := Value.bool true) (pl P51_1 1) wn_none (st_lss rfl rfl (decide_eq_true hc1)) (rc (pl P51_1 2) (st_move rfl) (rk (pl P51_1 3) (wn_some g51_1_2 rfl rfl) (rk (pl P51_1 4) (wn_some g51_1_2 rfl rfl) (rc (pl P51_1 5) (st_pick rfl rfl) (rc (pl P51_1 6) (st_assign rfl) rn)))))) ?_; clear hE a; intro a hE
  refine p_nil (x_norm (wp_ret ?_))
  refine ret_one (v := Value.bool true) rfl hE (.tmp rfl .nil) ?_
  exact ⟨by rw [node_f (by omega)]; rfl, K_0⟩
 ·
  refine qn hE (rg (v := Value.bool false) (pl P51_1 1) wn_none (st_lss rfl rfl (decide_eq_false hc1)) (rc (pl P51_1 2) (st_move rfl) (rg (pl P51_1 3) (wn_some g51_1_2 rfl rfl) (st_move rfl) rn))) ?_; clear hE a; intro a hE
  rcases Decidable.em (64 ≤ n) with hc2 | hc2
  ·
   refine qn hE (rg (v := Value.bool true) (pl P51_1 4) (wn_some g51_1_2 rfl rfl) (st_geq rfl rfl (decide_eq_true hc2)) (rc (pl P51_1 5) (st_pick rfl rfl) (rc (pl P51_1 6) (st_assign rfl) rn))) ?_; clear hE a; intro a hE
   refine p_nil (x_norm (wp_ret ?_))
   refine ret_one (v := Value.bool true) rfl hE (.tmp rfl .nil) ?_
   exact ⟨by rw [node_f (by omega)]; rfl, K_0⟩
  ·
   refine qn hE (rg (v := Value.bool false) (pl P51_1 4) (wn_some g51_1_2 rfl rfl) (st_geq rfl rfl (decide_eq_false hc2)) (rc (pl P51_1 5) (st_pick rfl rfl) (rc (pl P51_1 6) (st_assign rfl) rn))) ?_; clear hE a; intro a hE
   refine p_nil (x_norm (wp_ret ?_))
   refine ret_one (v := Value.bool false) rfl hE (.tmp rfl .nil) ?_
   exact ⟨by rw [node_t (by omega) (by omega)]; rfl, K_0⟩
theorem R67_0_l : List.range (regOf Tryd.f67 0).size = [0] := by kernel_rfl
theorem R67_1_l : List.range (regOf Tryd.f67 1).size = [0, 1, 2] := by kernel_rfl
theorem R67_2_l : List.range (regOf Tryd.f67 2).size = [0] := by kernel_rfl
theorem R67_3_l : List.range (regOf Tryd.f67 3).size = [0, 1] := by kernel_rfl
theorem R67_4_l : List.range (regOf Tryd.f67 4).size = [0, 1, 2, 3, 4, 5] := by kernel_rfl
theorem R67_5_l : List.range (regOf Tryd.f67 5).size = [0, 1] := by kernel_rfl
theorem R67_6_l : List.range (regOf Tryd.f67 6).size = [0, 1] := by kernel_rfl
theorem R67_7_l : List.range (regOf Tryd.f67 7).size = [0] := by kernel_rfl
theorem body67 : Tryd.f67.body = some (.seq (.region 0 (regOf Tryd.f67 0) false) (.seq (.seq (.region 1 (regOf Tryd.f67 1) false) (.block 0 (.loop (.seq (.region 2 (regOf Tryd.f67 2) false) (.seq (.cond (Operand.tmp 9) (.skip) (.exit 0)) (.seq (.block 1 (.seq (.region 3 (regOf Tryd.f67 3) false) (.seq (.region 4 (regOf Tryd.f67 4) false) (.cond (Operand.tmp 16) (.seq (.region 5 (regOf Tryd.f67 5) false) (.ret)) (.skip))))) (.region 6 (regOf Tryd.f67 6) false))))))) (.seq (.region 7 (regOf Tryd.f67 7) false) (.ret)))) := by kernel_rfl
theorem p67_0_0 : pj (regOf Tryd.f67 0) 0 = some (some 4, .assign (.const (.int .i64 0)), 3, none) := by kernel_rfl
theorem P67_1 : (List.range (regOf Tryd.f67 1).size).map (pj (regOf Tryd.f67 1)) = [some (some 6, .move (.tmp 0), 45, none), some (some 7, .call { callee := .builtin .len, args := #[.tmp 6], argTypes := #[45] }, 3, none), some (some 8, .move (.const (.int .i64 0)), 3, none)] := by kernel_rfl
theorem p67_2_0 : pj (regOf Tryd.f67 2) 0 = some (some 9, .binOp .lss 3 (.tmp 8) (.tmp 7) 3, 0, none) := by kernel_rfl
theorem P67_3 : (List.range (regOf Tryd.f67 3).size).map (pj (regOf Tryd.f67 3)) = [some (some 10, .move (.tmp 8), 3, none), some (some 5, .assign (.tmp 10), 3, none)] := by kernel_rfl
theorem P67_4 : (List.range (regOf Tryd.f67 4).size).map (pj (regOf Tryd.f67 4)) = [some (some 11, .move (.tmp 1), 39, none), some (some 12, .move (.tmp 0), 45, none), some (some 13, .move (.tmp 5), 3, none), some (some 14, .indexAddr 45 (.tmp 12) (.tmp 13), 0, none), some (some 15, .load 3 (.tmp 14), 3, none), some (some 16, .call { callee := .value (.tmp 11), args := #[.tmp 15], argTypes := #[3] }, 4, none)] := by kernel_rfl
theorem tS3 : (Tryd.prog.info? 3).map (·.size) = some 1 := by kernel_rfl
theorem tA3 : (Tryd.prog.underlying 3).map aggD = some false := by kernel_rfl
theorem cl51 : callable Tryd.f51 = true := by kernel_rfl
theorem P67_6 : (List.range (regOf Tryd.f67 6).size).map (pj (regOf Tryd.f67 6)) = [some (some 18, .binOp .add 3 (.tmp 8) (.const (.int .i64 1)) 3, 3, none), some (some 8, .move (.tmp 18), 3, none)] := by kernel_rfl
theorem p67_7_0 : pj (regOf Tryd.f67 7) 0 = some (some 4, .assign (.const (.int .i64 (-1))), 3, none) := by kernel_rfl
theorem P67_5 : (List.range (regOf Tryd.f67 5).size).map (pj (regOf Tryd.f67 5)) = [some (some 17, .move (.tmp 5), 3, none), some (some 4, .assign (.tmp 17), 3, none)] := by kernel_rfl
set_option maxHeartbeats 4000000 in
theorem idx2 (b : Nat) (x y : Int) (w : World) (hb9 : w.heap[b]? = some (.cells #[.int .i64 x, .int .i64 y] 3 (0, 0))) : Calls Tryd.prog 67 #[.slice (some ⟨b, 0, none⟩) 2 2, .func (.func 51) #[] #[]] w fun e w' => e = .returned (.int .i64 (idxF x y)) ∧ Kp w w' (fun _ => False) := by
 have K_0 := Kp.refl w (fun _ => False)
 have B_b := hb9
 refine enter (args := [Value.slice (some ⟨b, 0, none⟩) 2 2, Value.func (.func 51) #[] #[]]) (n := 19) Tryd.func67 body67 rfl rfl rfl ?_
 intro a hE
 refine c_reg R67_0_l ?_
 refine q0 p67_0_0 hE (st_assign rfl) ?_; clear hE a; intro a hE
 refine p_nil (x_norm (wp_seq (c_reg R67_1_l ?_)))
 refine qn hE (rc (pl P67_1 0) (st_move rfl) (rc (pl P67_1 1) (st_len Tryd.underlying45 rfl) (rc (pl P67_1 2) (st_move rfl) rn))) ?_; clear hE a; intro a hE
 refine p_nil (x_norm (wp_block ?_))
 refine wp_loop_rounds 3 ?_
 refine (Eq.mpr (rounds_succ (n := 2)) ?_)
 refine c_reg R67_2_l ?_
 refine q0 p67_2_0 hE (st_lss (b := true) rfl rfl (by decide)) ?_; clear hE a; intro a hE
 refine p_nil (x_norm (wp_seq ?_))
 refine c_cond (t := true) hE rfl ?_
 refine wp_skip (x_norm (wp_seq (wp_block (c_reg R67_3_l ?_))))
 refine qn hE (rc (pl P67_3 0) (st_move rfl) (rc (pl P67_3 1) (st_assign rfl) rn)) ?_; clear hE a; intro a hE
 refine p_nil (x_norm (c_reg R67_4_l ?_))
 refine qn hE (rc (pl P67_4 0) (st_move rfl) (rc (pl P67_4 1) (st_move rfl) (rc (pl P67_4 2) (st_move rfl) (rc (pl P67_4 3) (st_indexAddr (i := 0) Tryd.underlying45 tS3 rfl rfl (by decide) rfl) (rc (pl P67_4 4) (st_load1 tA3 rfl ((blk_cell B_b 0).trans rfl)) rn))))) ?_; clear hE a; intro a hE
 refine p_cons (s_callv (fst := []) (cap := []) (xs := [Operand.tmp 15]) (args := [Value.int .i64 x]) (pl P67_4 5) hE wn_none rfl rfl rfl Tryd.func51 cl51 (nd1 x _) ?_)
 rintro e w1 ⟨rfl, hk⟩
 replace B_b := kp_blk B_b hk (fun h => h)
 replace K_0 := K_0.then_ hk (fun _ h => h.elim)
 refine ⟨_, rfl, ?_⟩; clear hE a; intro a hE
 refine p_nil (x_norm ?_)
 rcases Bool.eq_false_or_eq_true (nodeB x) with hb2 | hb2
 ·
  rw [hb2] at hE
  refine c_cond (t := false) hE rfl ?_
  refine wp_skip (x_normB (x_norm (c_regL R67_6_l ?_)))
  refine qn hE (rc (pl P67_6 0) (st_add (z := 1) rfl rfl (by decide)) (rc (pl P67_6 1) (st_move rfl) rn)) ?_; clear hE a; intro a hE
  refine p_nil (x_norm ?_)
  refine (Eq.mpr (rounds_succ (n := 1)) ?_)
  refine c_reg R67_2_l ?_
  refine q0 p67_2_0 hE (st_lss (b := true) rfl rfl (by decide)) ?_; clear hE a; intro a hE
  refine p_nil (x_norm (wp_seq ?_))
  refine c_cond (t := true) hE rfl ?_
  refine wp_skip (x_norm (wp_seq (wp_block (c_reg R67_3_l ?_))))
  refine qn hE (rc (pl P67_3 0) (st_move rfl) (rc (pl P67_3 1) (st_assign rfl) rn)) ?_; clear hE a; intro a hE
  refine p_nil (x_norm (c_reg R67_4_l ?_))
  refine qn hE (rc (pl P67_4 0) (st_move rfl) (rc (pl P67_4 1) (st_move rfl) (rc (pl P67_4 2) (st_move rfl) (rc (pl P67_4 3) (st_indexAddr (i := 1) Tryd.underlying45 tS3 rfl rfl (by decide) rfl) (rc (pl P67_4 4) (st_load1 tA3 rfl ((blk_cell B_b 1).trans rfl)) rn))))) ?_; clear hE a; intro a hE
  refine p_cons (s_callv (fst := []) (cap := []) (xs := [Operand.tmp 15]) (args := [Value.int .i64 y]) (pl P67_4 5) hE wn_none rfl rfl rfl Tryd.func51 cl51 (nd1 y _) ?_)
  rintro e w3 ⟨rfl, hk⟩
  replace B_b := kp_blk B_b hk (fun h => h)
  replace K_0 := K_0.then_ hk (fun _ h => h.elim)
  refine ⟨_, rfl, ?_⟩; clear hE a; intro a hE
  refine p_nil (x_norm ?_)
  rcases Bool.eq_false_or_eq_true (nodeB y) with hb4 | hb4
  ·
   rw [hb4] at hE
   refine c_cond (t := false) hE rfl ?_
   refine wp_skip (x_normB (x_norm (c_regL R67_6_l ?_)))
   refine qn hE (rc (pl P67_6 0) (st_add (z := 2) rfl rfl (by decide)) (rc (pl P67_6 1) (st_move rfl) rn)) ?_; clear hE a; intro a hE
   refine p_nil (x_norm ?_)
   refine (Eq.mpr (rounds_succ (n := 0)) ?_)
   refine c_reg R67_2_l ?_
   refine q0 p67_2_0 hE (st_lss (b := false) rfl rfl (by decide)) ?_; clear hE a; intro a hE
   refine p_nil (x_norm (wp_seq ?_))
   refine c_cond (t := false) hE rfl ?_
   refine wp_exit (x_exit (x_exit (x_in (x_norm (c_reg R67_7_l ?_)))))
   refine q0 p67_7_0 hE (st_assign rfl) ?_; clear hE a; intro a hE
   refine p_nil (x_norm (wp_ret ?_))
   refine ret_one (v := Value.int .i64 (-1)) rfl hE (.tmp rfl .nil) ?_
   exact ⟨by unfold idxF; rw [hb2, hb4]; rfl, K_0⟩
  ·
   rw [hb4] at hE
   refine c_cond (t := true) hE rfl ?_
   refine c_reg R67_5_l ?_
   refine qn hE (rc (pl P67_5 0) (st_move rfl) (rc (pl P67_5 1) (st_assign rfl) rn)) ?_; clear hE a; intro a hE
   refine p_nil (x_norm (wp_ret (x_retB (x_ret (x_ret (x_retB (x_ret ?_)))))))
   refine ret_one (v := Value.int .i64 1) rfl hE (.tmp rfl .nil) ?_
   exact ⟨by unfold idxF; rw [hb2, hb4]; rfl, K_0⟩
 ·
  rw [hb2] at hE
  refine c_cond (t := true) hE rfl ?_
  refine c_reg R67_5_l ?_
  refine qn hE (rc (pl P67_5 0) (st_move rfl) (rc (pl P67_5 1) (st_assign rfl) rn)) ?_; clear hE a; intro a hE
  refine p_nil (x_norm (wp_ret (x_retB (x_ret (x_ret (x_retB (x_ret ?_)))))))
  refine ret_one (v := Value.int .i64 0) rfl hE (.tmp rfl .nil) ?_
  exact ⟨by unfold idxF; rw [hb2]; rfl, K_0⟩
theorem idx_ge (x y : Int) : decide (0 ≤ idxF x y) = !(nodeB x && nodeB y) := by unfold idxF; cases nodeB x <;> cases nodeB y <;> rfl
theorem R50_0_l : List.range (regOf Tryd.f50 0).size = [0] := by kernel_rfl
theorem R50_1_l : List.range (regOf Tryd.f50 1).size = [0, 1, 2, 3, 4] := by kernel_rfl
theorem body50 : Tryd.f50.body = some (.seq (.region 0 (regOf Tryd.f50 0) false) (.seq (.region 1 (regOf Tryd.f50 1) false) (.ret))) := by kernel_rfl
theorem p50_0_0 : pj (regOf Tryd.f50 0) 0 = some (some 4, .assign (.const (.bool false)), 4, none) := by kernel_rfl
theorem P50_1 : (List.range (regOf Tryd.f50 1).size).map (pj (regOf Tryd.f50 1)) = [some (some 5, .move (.tmp 0), 45, none), some (some 6, .move (.tmp 1), 39, none), some (some 7, .call { callee := .value (.func 67), args := #[.tmp 5, .tmp 6], argTypes := #[45, 39] }, 3, none), some (some 8, .binOp .geq 3 (.tmp 7) (.const (.int .i64 0)) 3, 4, none), some (some 4, .assign (.tmp 8), 4, none)] := by kernel_rfl
theorem cl67 : callable Tryd.f67 = true := by kernel_rfl
set_option maxHeartbeats 4000000 in
theorem ctf2 (b : Nat) (x y : Int) (w : World) (hb9 : w.heap[b]? = some (.cells #[.int .i64 x, .int .i64 y] 3 (0, 0))) : Calls Tryd.prog 50 #[.slice (some ⟨b, 0, none⟩) 2 2, .func (.func 51) #[] #[]] w fun e w' => e = .returned (.bool (!(nodeB x && nodeB y))) ∧ Kp w w' (fun _ => False) := by
 have K_0 := Kp.refl w (fun _ => False)
 have B_b := hb9
 refine enter (args := [Value.slice (some ⟨b, 0, none⟩) 2 2, Value.func (.func 51) #[] #[]]) (n := 9) Tryd.func50 body50 rfl rfl rfl ?_
 intro a hE
 refine c_reg R50_0_l ?_
 refine q0 p50_0_0 hE (st_assign rfl) ?_; clear hE a; intro a hE
 refine p_nil (x_norm (c_reg R50_1_l ?_))
 refine qn hE (rc (pl P50_1 0) (st_move rfl) (rc (pl P50_1 1) (st_move rfl) rn)) ?_; clear hE a; intro a hE
 refine p_cons (s_call (xs := [Operand.tmp 5, Operand.tmp 6]) (args := [Value.slice (some ⟨b, 0, none⟩) 2 2, Value.func (.func 51) #[] #[]]) (pl P50_1 2) hE wn_none rfl rfl Tryd.func67 cl67 (idx2 b x y _ B_b) ?_)
 rintro e w1 ⟨rfl, hk⟩
 replace B_b := kp_blk B_b hk (fun h => h)
 replace K_0 := K_0.then_ hk (fun _ h => h.elim)
 refine ⟨_, rfl, ?_⟩; clear hE a; intro a hE
 refine qn hE (rc (pl P50_1 3) (st_geq (b := (!(nodeB x && nodeB y))) rfl rfl (idx_ge x y)) (rc (pl P50_1 4) (st_assign rfl) rn)) ?_; clear hE a; intro a hE
 refine p_nil (x_norm (wp_ret ?_))
 refine ret_one (v := Value.bool (!(nodeB x && nodeB y))) rfl hE (.tmp rfl .nil) ?_
 exact ⟨rfl, K_0⟩
theorem R39_0_l : List.range (regOf Tryd.f39 0).size = [0] := by kernel_rfl
theorem R39_1_l : List.range (regOf Tryd.f39 1).size = [0, 1, 2, 3] := by kernel_rfl
theorem body39 : Tryd.f39.body = some (.seq (.region 0 (regOf Tryd.f39 0) false) (.seq (.region 1 (regOf Tryd.f39 1) false) (.ret))) := by kernel_rfl
theorem p39_0_0 : pj (regOf Tryd.f39 0) 0 = some (some 2, .assign (.const (.bool false)), 4, none) := by kernel_rfl
theorem P39_1 : (List.range (regOf Tryd.f39 1).size).map (pj (regOf Tryd.f39 1)) = [some (some 3, .move (.tmp 0), 45, none), some (some 4, .call { callee := .value (.func 50), args := #[.tmp 3, .func 51], argTypes := #[45, 39] }, 4, none), some (some 5, .unOp .not 4 (.tmp 4), 4, none), some (some 2, .assign (.tmp 5), 4, none)] := by kernel_rfl
theorem cl50 : callable Tryd.f50 = true := by kernel_rfl
set_option maxHeartbeats 4000000 in
theorem nodes2 (b : Nat) (x y : Int) (w : World) (hb9 : w.heap[b]? = some (.cells #[.int .i64 x, .int .i64 y] 3 (0, 0))) : Calls Tryd.prog 39 #[.slice (some ⟨b, 0, none⟩) 2 2] w fun e w' => e = .returned (.bool (nodeB x && nodeB y)) ∧ Kp w w' (fun _ => False) := by
 have K_0 := Kp.refl w (fun _ => False)
 have B_b := hb9
 refine enter (args := [Value.slice (some ⟨b, 0, none⟩) 2 2]) (n := 6) Tryd.func39 body39 rfl rfl rfl ?_
 intro a hE
 refine c_reg R39_0_l ?_
 refine q0 p39_0_0 hE (st_assign rfl) ?_; clear hE a; intro a hE
 refine p_nil (x_norm (c_reg R39_1_l ?_))
 refine q0 (pl P39_1 0) hE (st_move rfl) ?_; clear hE a; intro a hE
 refine p_cons (s_call (xs := [Operand.tmp 3, Operand.func 51]) (args := [Value.slice (some ⟨b, 0, none⟩) 2 2, Value.func (.func 51) #[] #[]]) (pl P39_1 1) hE wn_none rfl rfl Tryd.func50 cl50 (ctf2 b x y _ B_b) ?_)
 rintro e w1 ⟨rfl, hk⟩
 replace B_b := kp_blk B_b hk (fun h => h)
 replace K_0 := K_0.then_ hk (fun _ h => h.elim)
 refine ⟨_, rfl, ?_⟩; clear hE a; intro a hE
 refine qn hE (rc (pl P39_1 2) (st_not rfl rfl) (rc (pl P39_1 3) (st_assign rfl) rn)) ?_; clear hE a; intro a hE
 refine p_nil (x_norm (wp_ret ?_))
 refine ret_one (v := Value.bool (!(!(nodeB x && nodeB y)))) rfl hE (.tmp rfl .nil) ?_
 exact ⟨by rw [Bool.not_not], K_0⟩
theorem R40_0_l : List.range (regOf Tryd.f40 0).size = [0] := by kernel_rfl
theorem R40_1_l : List.range (regOf Tryd.f40 1).size = [0, 1, 2] := by kernel_rfl
theorem R40_2_l : List.range (regOf Tryd.f40 2).size = [0] := by kernel_rfl
theorem R40_3_l : List.range (regOf Tryd.f40 3).size = [0, 1, 2] := by kernel_rfl
theorem R40_4_l : List.range (regOf Tryd.f40 4).size = [0, 1, 2, 3, 4, 5] := by kernel_rfl
theorem R40_5_l : List.range (regOf Tryd.f40 5).size = [0] := by kernel_rfl
theorem R40_6_l : List.range (regOf Tryd.f40 6).size = [0, 1] := by kernel_rfl
theorem R40_7_l : List.range (regOf Tryd.f40 7).size = [0] := by kernel_rfl
theorem body40 : Tryd.f40.body = some (.seq (.region 0 (regOf Tryd.f40 0) false) (.seq (.seq (.region 1 (regOf Tryd.f40 1) false) (.block 0 (.loop (.seq (.region 2 (regOf Tryd.f40 2) false) (.seq (.cond (Operand.tmp 8) (.skip) (.exit 0)) (.seq (.block 1 (.seq (.region 3 (regOf Tryd.f40 3) false) (.seq (.region 4 (regOf Tryd.f40 4) false) (.cond (Operand.tmp 16) (.seq (.region 5 (regOf Tryd.f40 5) false) (.ret)) (.skip))))) (.region 6 (regOf Tryd.f40 6) false))))))) (.seq (.region 7 (regOf Tryd.f40 7) false) (.ret)))) := by kernel_rfl
theorem p40_0_0 : pj (regOf Tryd.f40 0) 0 = some (some 2, .assign (.const (.bool false)), 4, none) := by kernel_rfl
theorem P40_1 : (List.range (regOf Tryd.f40 1).size).map (pj (regOf Tryd.f40 1)) = [some (some 5, .move (.tmp 0), 45, none), some (some 6, .call { callee := .builtin .len, args := #[.tmp 5], argTypes := #[45] }, 3, none), some (some 7, .move (.const (.int .i64 0)), 3, none)] := by kernel_rfl
theorem p40_2_0 : pj (regOf Tryd.f40 2) 0 = some (some 8, .binOp .lss 3 (.tmp 7) (.tmp 6) 3, 0, none) := by kernel_rfl
theorem P40_3 : (List.range (regOf Tryd.f40 3).size).map (pj (regOf Tryd.f40 3)) = [some (some 9, .indexAddr 45 (.tmp 5) (.tmp 7), 0, none), some (some 10, .load 3 (.tmp 9), 3, none), some (some 4, .assign (.tmp 10), 3, none)] := by kernel_rfl
theorem P40_4 : (List.range (regOf Tryd.f40 4).size).map (pj (regOf Tryd.f40 4)) = [some (some 11, .move (.tmp 4), 3, none), some (some 12, .binOp .lss 3 (.tmp 11) (.const (.int .i64 0)) 3, 4, none), some (some 13, .move (.tmp 12), 4, none), some (some 14, .move (.tmp 4), 3, some (2, false)), some (some 15, .binOp .geq 3 (.tmp 14) (.const (.int .i64 256)) 3, 4, some (2, false)), some (some 16, .pick (.tmp 13) (.const (.bool true)) (.tmp 15), 4, none)] := by kernel_rfl
theorem g40_4_2 : dstOf (regOf Tryd.f40 4) 2 = some 13 := by kernel_rfl
theorem p40_5_0 : pj (regOf Tryd.f40 5) 0 = some (some 2, .assign (.const (.bool false)), 4, none) := by kernel_rfl
theorem P40_6 : (List.range (regOf Tryd.f40 6).size).map (pj (regOf Tryd.f40 6)) = [some (some 17, .binOp .add 3 (.tmp 7) (.const (.int .i64 1)) 3, 3, none), some (some 7, .move (.tmp 17), 3, none)] := by kernel_rfl
theorem p40_7_0 : pj (regOf Tryd.f40 7) 0 = some (some 2, .assign (.const (.bool true)), 4, none) := by kernel_rfl
set_option maxHeartbeats 4000000 in
theorem valid1 (b : Nat) (x : Int) (w : World) (hb9 : w.heap[b]? = some (.cells #[.int .i64 x] 3 (0, 0))) : Calls Tryd.prog 40 #[.slice (some ⟨b, 0, none⟩) 1 1] w fun e w' => e = .returned (.bool (seqB x)) ∧ Kp w w' (fun _ => False) := by
 have K_0 := Kp.refl w (fun _ => False)
 have B_b := hb9
 refine enter (args := [Value.slice (some ⟨b, 0, none⟩) 1 1]) (n := 18) Tryd.func40 body40 rfl rfl rfl ?_
 intro a hE
 refine c_reg R40_0_l ?_
 refine q0 p40_0_0 hE (st_assign rfl) ?_; clear hE a; intro a hE
 refine p_nil (x_norm (wp_seq (c_reg R40_1_l ?_)))
 refine qn hE (rc (pl P40_1 0) (st_move rfl) (rc (pl P40_1 1) (st_len Tryd.underlying45 rfl) (rc (pl P40_1 2) (st_move rfl) rn))) ?_; clear hE a; intro a hE
 refine p_nil (x_norm (wp_block ?_))
 refine wp_loop_rounds 2 ?_
 refine (Eq.mpr (rounds_succ (n := 1)) ?_)
 refine c_reg R40_2_l ?_
 refine q0 p40_2_0 hE (st_lss (b := true) rfl rfl (by decide)) ?_; clear hE a; intro a hE
 refine p_nil (x_norm (wp_seq ?_))
 refine c_cond (t := true) hE rfl ?_
 refine wp_skip (x_norm (wp_seq (wp_block (c_reg R40_3_l ?_))))
 refine qn hE (rc (pl P40_3 0) (st_indexAddr (i := 0) Tryd.underlying45 tS3 rfl rfl (by decide) rfl) (rc (pl P40_3 1) (st_load1 tA3 rfl ((blk_cell B_b 0).trans rfl)) (rc (pl P40_3 2) (st_assign rfl) rn))) ?_; clear hE a; intro a hE
 refine p_nil (x_norm (c_reg R40_4_l ?_))
 refine q0 (pl P40_4 0) hE (st_move rfl) ?_; clear hE a; intro a hE
 rcases Decidable.em (x < 0) with hc1 | hc1
 ·
  refine qn hE (rg (v := Value.bool true) (pl P40_4 1) wn_none (st_lss rfl rfl (decide_eq_true hc1)) (rc (pl P40_4 2) (st_move rfl) (rk (pl P40_4 3) (wn_some g40_4_2 rfl rfl) (rk (pl P40_4 4) (wn_some g40_4_2 rfl rfl) (rc (pl P40_4 5) (st_pick rfl rfl) rn))))) ?_; clear hE a; intro a hE
  refine p_nil (x_norm ?_)
  refine c_cond (t := true) hE rfl ?_
  refine c_reg R40_5_l ?_
  refine q0 p40_5_0 hE (st_assign rfl) ?_; clear hE a; intro a hE
  refine p_nil (x_norm (wp_ret (x_retB (x_ret (x_ret (x_retB (x_ret ?_)))))))
  refine ret_one (v := Value.bool false) rfl hE (.tmp rfl .nil) ?_
  exact ⟨by rw [seq_f (by omega)], K_0⟩
 ·
  refine qn hE (rg (v := Value.bool false) (pl P40_4 1) wn_none (st_lss rfl rfl (decide_eq_false hc1)) (rc (pl P40_4 2) (st_move rfl) (rg (pl P40_4 3) (wn_some g40_4_2 rfl rfl) (st_move rfl) rn))) ?_; clear hE a; intro a hE
  rcases Decidable.em (256 ≤ x) with hc2 | hc2
  ·
   refine qn hE (rg (v := Value.bool true) (pl P40_4 4) (wn_some g40_4_2 rfl rfl) (st_geq rfl rfl (decide_eq_true hc2)) (rc (pl P40_4 5) (st_pick rfl rfl) rn)) ?_; clear hE a; intro a hE
   refine p_nil (x_norm ?_)
   refine c_cond (t := true) hE rfl ?_
   refine c_reg R40_5_l ?_
   refine q0 p40_5_0 hE (st_assign rfl) ?_; clear hE a; intro a hE
   refine p_nil (x_norm (wp_ret (x_retB (x_ret (x_ret (x_retB (x_ret ?_)))))))
   refine ret_one (v := Value.bool false) rfl hE (.tmp rfl .nil) ?_
   exact ⟨by rw [seq_f (by omega)], K_0⟩
  ·
   refine qn hE (rg (v := Value.bool false) (pl P40_4 4) (wn_some g40_4_2 rfl rfl) (st_geq rfl rfl (decide_eq_false hc2)) (rc (pl P40_4 5) (st_pick rfl rfl) rn)) ?_; clear hE a; intro a hE
   refine p_nil (x_norm ?_)
   refine c_cond (t := false) hE rfl ?_
   refine wp_skip (x_normB (x_norm (c_regL R40_6_l ?_)))
   refine qn hE (rc (pl P40_6 0) (st_add (z := 1) rfl rfl (by decide)) (rc (pl P40_6 1) (st_move rfl) rn)) ?_; clear hE a; intro a hE
   refine p_nil (x_norm ?_)
   refine (Eq.mpr (rounds_succ (n := 0)) ?_)
   refine c_reg R40_2_l ?_
   refine q0 p40_2_0 hE (st_lss (b := false) rfl rfl (by decide)) ?_; clear hE a; intro a hE
   refine p_nil (x_norm (wp_seq ?_))
   refine c_cond (t := false) hE rfl ?_
   refine wp_exit (x_exit (x_exit (x_in (x_norm (c_reg R40_7_l ?_)))))
   refine q0 p40_7_0 hE (st_assign rfl) ?_; clear hE a; intro a hE
   refine p_nil (x_norm (wp_ret ?_))
   refine ret_one (v := Value.bool true) rfl hE (.tmp rfl .nil) ?_
   exact ⟨by rw [seq_t (n := x) (by omega) (by omega)], K_0⟩

set_option maxHeartbeats 4000000 in
theorem valid2 (b : Nat) (x y : Int) (w : World) (hb9 : w.heap[b]? = some (.cells #[.int .i64 x, .int .i64 y] 3 (0, 0))) : Calls Tryd.prog 40 #[.slice (some ⟨b, 0, none⟩) 2 2] w fun e w' => e = .returned (.bool (seqB x && seqB y)) ∧ Kp w w' (fun _ => False) := by
 have K_0 := Kp.refl w (fun _ => False)
 have B_b := hb9
 refine enter (args := [Value.slice (some ⟨b, 0, none⟩) 2 2]) (n := 18) Tryd.func40 body40 rfl rfl rfl ?_
 intro a hE
 refine c_reg R40_0_l ?_
 refine q0 p40_0_0 hE (st_assign rfl) ?_; clear hE a; intro a hE
 refine p_nil (x_norm (wp_seq (c_reg R40_1_l ?_)))
 refine qn hE (rc (pl P40_1 0) (st_move rfl) (rc (pl P40_1 1) (st_len Tryd.underlying45 rfl) (rc (pl P40_1 2) (st_move rfl) rn))) ?_; clear hE a; intro a hE
 refine p_nil (x_norm (wp_block ?_))
 refine wp_loop_rounds 3 ?_
 refine (Eq.mpr (rounds_succ (n := 2)) ?_)
 refine c_reg R40_2_l ?_
 refine q0 p40_2_0 hE (st_lss (b := true) rfl rfl (by decide)) ?_; clear hE a; intro a hE
 refine p_nil (x_norm (wp_seq ?_))
 refine c_cond (t := true) hE rfl ?_
 refine wp_skip (x_norm (wp_seq (wp_block (c_reg R40_3_l ?_))))
 refine qn hE (rc (pl P40_3 0) (st_indexAddr (i := 0) Tryd.underlying45 tS3 rfl rfl (by decide) rfl) (rc (pl P40_3 1) (st_load1 tA3 rfl ((blk_cell B_b 0).trans rfl)) (rc (pl P40_3 2) (st_assign rfl) rn))) ?_; clear hE a; intro a hE
 refine p_nil (x_norm (c_reg R40_4_l ?_))
 refine q0 (pl P40_4 0) hE (st_move rfl) ?_; clear hE a; intro a hE
 rcases Decidable.em (x < 0) with hc1 | hc1
 ·
  refine qn hE (rg (v := Value.bool true) (pl P40_4 1) wn_none (st_lss rfl rfl (decide_eq_true hc1)) (rc (pl P40_4 2) (st_move rfl) (rk (pl P40_4 3) (wn_some g40_4_2 rfl rfl) (rk (pl P40_4 4) (wn_some g40_4_2 rfl rfl) (rc (pl P40_4 5) (st_pick rfl rfl) rn))))) ?_; clear hE a; intro a hE
  refine p_nil (x_norm ?_)
  refine c_cond (t := true) hE rfl ?_
  refine c_reg R40_5_l ?_
  refine q0 p40_5_0 hE (st_assign rfl) ?_; clear hE a; intro a hE
  refine p_nil (x_norm (wp_ret (x_retB (x_ret (x_ret (x_retB (x_ret ?_)))))))
  refine ret_one (v := Value.bool false) rfl hE (.tmp rfl .nil) ?_
  exact ⟨by rw [show (seqB x && seqB y) = false from Bool.and_eq_false_iff.2 (by first | exact .inl (seq_f (by omega)) | exact .inr (seq_f (by omega)))], K_0⟩
 ·
  refine qn hE (rg (v := Value.bool false) (pl P40_4 1) wn_none (st_lss rfl rfl (decide_eq_false hc1)) (rc (pl P40_4 2) (st_move rfl) (rg (pl P40_4 3) (wn_some g40_4_2 rfl rfl) (st_move rfl) rn))) ?_; clear hE a; intro a hE
  rcases Decidable.em (256 ≤ x) with hc2 | hc2
  ·
   refine qn hE (rg (v := Value.bool true) (pl P40_4 4) (wn_some g40_4_2 rfl rfl) (st_geq rfl rfl (decide_eq_true hc2)) (rc (pl P40_4 5) (st_pick rfl rfl) rn)) ?_; clear hE a; intro a hE
   refine p_nil (x_norm ?_)
   refine c_cond (t := true) hE rfl ?_
   refine c_reg R40_5_l ?_
   refine q0 p40_5_0 hE (st_assign rfl) ?_; clear hE a; intro a hE
   refine p_nil (x_norm (wp_ret (x_retB (x_ret (x_ret (x_retB (x_ret ?_)))))))
   refine ret_one (v := Value.bool false) rfl hE (.tmp rfl .nil) ?_
   exact ⟨by rw [show (seqB x && seqB y) = false from Bool.and_eq_false_iff.2 (by first | exact .inl (seq_f (by omega)) | exact .inr (seq_f (by omega)))], K_0⟩
  ·
   refine qn hE (rg (v := Value.bool false) (pl P40_4 4) (wn_some g40_4_2 rfl rfl) (st_geq rfl rfl (decide_eq_false hc2)) (rc (pl P40_4 5) (st_pick rfl rfl) rn)) ?_; clear hE a; intro a hE
   refine p_nil (x_norm ?_)
   refine c_cond (t := false) hE rfl ?_
   refine wp_skip (x_normB (x_norm (c_regL R40_6_l ?_)))
   refine qn hE (rc (pl P40_6 0) (st_add (z := 1) rfl rfl (by decide)) (rc (pl P40_6 1) (st_move rfl) rn)) ?_; clear hE a; intro a hE
   refine p_nil (x_norm ?_)
   refine (Eq.mpr (rounds_succ (n := 1)) ?_)
   refine c_reg R40_2_l ?_
   refine q0 p40_2_0 hE (st_lss (b := true) rfl rfl (by decide)) ?_; clear hE a; intro a hE
   refine p_nil (x_norm (wp_seq ?_))
   refine c_cond (t := true) hE rfl ?_
   refine wp_skip (x_norm (wp_seq (wp_block (c_reg R40_3_l ?_))))
   refine qn hE (rc (pl P40_3 0) (st_indexAddr (i := 1) Tryd.underlying45 tS3 rfl rfl (by decide) rfl) (rc (pl P40_3 1) (st_load1 tA3 rfl ((blk_cell B_b 1).trans rfl)) (rc (pl P40_3 2) (st_assign rfl) rn))) ?_; clear hE a; intro a hE
   refine p_nil (x_norm (c_reg R40_4_l ?_))
   refine q0 (pl P40_4 0) hE (st_move rfl) ?_; clear hE a; intro a hE
   rcases Decidable.em (y < 0) with hc3 | hc3
   ·
    refine qn hE (rg (v := Value.bool true) (pl P40_4 1) wn_none (st_lss rfl rfl (decide_eq_true hc3)) (rc (pl P40_4 2) (st_move rfl) (rk (pl P40_4 3) (wn_some g40_4_2 rfl rfl) (rk (pl P40_4 4) (wn_some g40_4_2 rfl rfl) (rc (pl P40_4 5) (st_pick rfl rfl) rn))))) ?_; clear hE a; intro a hE
    refine p_nil (x_norm ?_)
    refine c_cond (t := true) hE rfl ?_
    refine c_reg R40_5_l ?_
    refine q0 p40_5_0 hE (st_assign rfl) ?_; clear hE a; intro a hE
    refine p_nil (x_norm (wp_ret (x_retB (x_ret (x_ret (x_retB (x_ret ?_)))))))
    refine ret_one (v := Value.bool false) rfl hE (.tmp rfl .nil) ?_
    exact ⟨by rw [show (seqB x && seqB y) = false from Bool.and_eq_false_iff.2 (by first | exact .inl (seq_f (by omega)) | exact .inr (seq_f (by omega)))], K_0⟩
   ·
    refine qn hE (rg (v := Value.bool false) (pl P40_4 1) wn_none (st_lss rfl rfl (decide_eq_false hc3)) (rc (pl P40_4 2) (st_move rfl) (rg (pl P40_4 3) (wn_some g40_4_2 rfl rfl) (st_move rfl) rn))) ?_; clear hE a; intro a hE
    rcases Decidable.em (256 ≤ y) with hc4 | hc4
    ·
     refine qn hE (rg (v := Value.bool true) (pl P40_4 4) (wn_some g40_4_2 rfl rfl) (st_geq rfl rfl (decide_eq_true hc4)) (rc (pl P40_4 5) (st_pick rfl rfl) rn)) ?_; clear hE a; intro a hE
     refine p_nil (x_norm ?_)
     refine c_cond (t := true) hE rfl ?_
     refine c_reg R40_5_l ?_
     refine q0 p40_5_0 hE (st_assign rfl) ?_; clear hE a; intro a hE
     refine p_nil (x_norm (wp_ret (x_retB (x_ret (x_ret (x_retB (x_ret ?_)))))))
     refine ret_one (v := Value.bool false) rfl hE (.tmp rfl .nil) ?_
     exact ⟨by rw [show (seqB x && seqB y) = false from Bool.and_eq_false_iff.2 (by first | exact .inl (seq_f (by omega)) | exact .inr (seq_f (by omega)))], K_0⟩
    ·
     refine qn hE (rg (v := Value.bool false) (pl P40_4 4) (wn_some g40_4_2 rfl rfl) (st_geq rfl rfl (decide_eq_false hc4)) (rc (pl P40_4 5) (st_pick rfl rfl) rn)) ?_; clear hE a; intro a hE
     refine p_nil (x_norm ?_)
     refine c_cond (t := false) hE rfl ?_
     refine wp_skip (x_normB (x_norm (c_regL R40_6_l ?_)))
     refine qn hE (rc (pl P40_6 0) (st_add (z := 2) rfl rfl (by decide)) (rc (pl P40_6 1) (st_move rfl) rn)) ?_; clear hE a; intro a hE
     refine p_nil (x_norm ?_)
     refine (Eq.mpr (rounds_succ (n := 0)) ?_)
     refine c_reg R40_2_l ?_
     refine q0 p40_2_0 hE (st_lss (b := false) rfl rfl (by decide)) ?_; clear hE a; intro a hE
     refine p_nil (x_norm (wp_seq ?_))
     refine c_cond (t := false) hE rfl ?_
     refine wp_exit (x_exit (x_exit (x_in (x_norm (c_reg R40_7_l ?_)))))
     refine q0 p40_7_0 hE (st_assign rfl) ?_; clear hE a; intro a hE
     refine p_nil (x_norm (wp_ret ?_))
     refine ret_one (v := Value.bool true) rfl hE (.tmp rfl .nil) ?_
     exact ⟨by rw [seq_t (n := x) (by omega) (by omega), seq_t (n := y) (by omega) (by omega)]; rfl, K_0⟩
theorem R41_0_l : List.range (regOf Tryd.f41 0).size = [0] := by kernel_rfl
theorem R41_1_l : List.range (regOf Tryd.f41 1).size = [0, 1, 2, 3, 4, 5, 6, 7, 8, 9, 10] := by kernel_rfl
theorem body41 : Tryd.f41.body = some (.seq (.region 0 (regOf Tryd.f41 0) false) (.seq (.region 1 (regOf Tryd.f41 1) false) (.ret))) := by kernel_rfl
theorem p41_0_0 : pj (regOf Tryd.f41 0) 0 = some (some 4, .assign (.const (.bool false)), 4, none) := by kernel_rfl
theorem P41_1 : (List.range (regOf Tryd.f41 1).size).map (pj (regOf Tryd.f41 1)) = [some (some 5, .move (.tmp 0), 3, none), some (some 6, .move (.tmp 1), 3, none), some (some 7, .buildSlice 45 2 #[(0, .tmp 5), (1, .tmp 6)], 45, none), some (some 8, .call { callee := .value (.func 40), args := #[.tmp 7], argTypes := #[45] }, 4, none), some (some 9, .move (.tmp 8), 4, none), some (some 10, .move (.tmp 0), 3, some (4, true)), some (some 11, .move (.tmp 1), 3, some (4, true)), some (some 12, .call { callee := .value (.func 52), args := #[.tmp 10, .tmp 11], argTypes := #[3, 3] }, 3, some (4, true)), some (some 13, .binOp .eql 3 (.tmp 12) (.const (.int .i64 2)) 3, 4, some (4, true)), some (some 14, .pick (.tmp 9) (.tmp 13) (.const (.bool false)), 4, none), some (some 4, .assign (.tmp 14), 4, none)] := by kernel_rfl
theorem cl40 : callable Tryd.f40 = true := by kernel_rfl
theorem g41_1_4 : dstOf (regOf Tryd.f41 1) 4 = some 9 := by kernel_rfl
theorem cl52 : callable Tryd.f52 = true := by kernel_rfl
set_option maxHeartbeats 4000000 in
theorem newer (x y : Int) (hx : 0 ≤ x ∧ x ≤ 255) (hy : 0 ≤ y ∧ y ≤ 255) (w : World) : Calls Tryd.prog 41 #[.int .i64 x, .int .i64 y] w fun e w' => e = .returned (.bool (decide (cmpF x y = 2))) ∧ Kp w w' (fun _ => False) := by
 have K_0 := Kp.refl w (fun _ => False)
 have hsa := seq_t hx.1 (by omega : x < 256)
 have hsb := seq_t hy.1 (by omega : y < 256)
 refine enter (args := [Value.int .i64 x, Value.int .i64 y]) (n := 15) Tryd.func41 body41 rfl rfl rfl ?_
 intro a hE
 refine c_reg R41_0_l ?_
 refine q0 p41_0_0 hE (st_assign rfl) ?_; clear hE a; intro a hE
 refine p_nil (x_norm (c_reg R41_1_l ?_))
 refine qn hE (rc (pl P41_1 0) (st_move rfl) (rc (pl P41_1 1) (st_move rfl) rn)) ?_; clear hE a; intro a hE
 refine p_cons (s_row (xs := [(0, Operand.tmp 5), (1, Operand.tmp 6)]) (vs := [(0, Value.int .i64 x), (1, Value.int .i64 y)]) (cs := #[Value.int .i64 x, Value.int .i64 y]) (pl P41_1 2) hE wn_none rfl Tryd.underlying45 rfl (by kernel_rfl) ?_)
 clear hE a; intro g1 w2 z3 B_g1 hk a hE
 have z_0_g1 := Nat.le_trans K_0.kept.1 z3
 replace K_0 := K_0.then_ hk (fun _ h => h.elim)
 clear hk
 refine p_cons (s_call (xs := [Operand.tmp 7]) (args := [Value.slice (some ⟨g1, 0, none⟩) 2 2]) (pl P41_1 3) hE wn_none rfl rfl Tryd.func40 cl40 (valid2 g1 x y _ B_g1) ?_)
 rintro e w4 ⟨rfl, hk⟩
 replace B_g1 := kp_blk B_g1 hk (fun h => h)
 replace K_0 := K_0.then_ hk (fun _ h => h.elim)
 refine ⟨_, rfl, ?_⟩; clear hE a; intro a hE
 refine q0 (pl P41_1 4) hE (st_move rfl) ?_; clear hE a; intro a hE
 rcases Bool.eq_false_or_eq_true (seqB x && seqB y) with hb5 | hb5
 ·
  rw [hb5] at hE
  refine qn hE (rg (pl P41_1 5) (wn_some g41_1_4 rfl rfl) (st_move rfl) (rg (pl P41_1 6) (wn_some g41_1_4 rfl rfl) (st_move rfl) rn)) ?_; clear hE a; intro a hE
  refine p_cons (s_call (xs := [Operand.tmp 10, Operand.tmp 11]) (args := [Value.int .i64 x, Value.int .i64 y]) (pl P41_1 7) hE (wn_some g41_1_4 rfl rfl) rfl rfl Tryd.func52 cl52 (compare_kp x y (by omega) (by omega) _) ?_)
  rintro e w6 ⟨rfl, hk⟩
  replace B_g1 := kp_blk B_g1 hk (fun h => h)
  replace K_0 := K_0.then_ hk (fun _ h => h.elim)
  refine ⟨_, rfl, ?_⟩; clear hE a; intro a hE
  rcases Decidable.em ((cmpF x y) = 2) with hc7 | hc7
  ·
   refine qn hE (rg (v := Value.bool true) (pl P41_1 8) (wn_some g41_1_4 rfl rfl) (st_eql rfl rfl (decide_eq_true hc7)) (rc (pl P41_1 9) (st_pick rfl rfl) (rc (pl P41_1 10) (st_assign rfl) rn))) ?_; clear hE a; intro a hE
   refine p_nil (x_norm (wp_ret ?_))
   refine ret_one (v := Value.bool true) rfl hE (.tmp rfl .nil) ?_
   exact ⟨by rw [decide_eq_true hc7], K_0⟩
  ·
   refine qn hE (rg (v := Value.bool false) (pl P41_1 8) (wn_some g41_1_4 rfl rfl) (st_eql rfl rfl (decide_eq_false hc7)) (rc (pl P41_1 9) (st_pick rfl rfl) (rc (pl P41_1 10) (st_assign rfl) rn))) ?_; clear hE a; intro a hE
   refine p_nil (x_norm (wp_ret ?_))
   refine ret_one (v := Value.bool false) rfl hE (.tmp rfl .nil) ?_
   exact ⟨by rw [decide_eq_false hc7], K_0⟩
 ·
  rw [hb5] at hE
  refine qn hE (rk (pl P41_1 5) (wn_some g41_1_4 rfl rfl) (rk (pl P41_1 6) (wn_some g41_1_4 rfl rfl) (rk (pl P41_1 7) (wn_some g41_1_4 rfl rfl) (rk (pl P41_1 8) (wn_some g41_1_4 rfl rfl) (rc (pl P41_1 9) (st_pick rfl rfl) (rc (pl P41_1 10) (st_assign rfl) rn)))))) ?_; clear hE a; intro a hE
  refine p_nil (x_norm (wp_ret ?_))
  refine ret_one (v := Value.bool false) rfl hE (.tmp rfl .nil) ?_
  exact absurd hb5 (by rw [hsa, hsb]; decide)
theorem R29_0_l : List.range (regOf Tryd.f29 0).size = [0, 1, 2] := by kernel_rfl
theorem R29_1_l : List.range (regOf Tryd.f29 1).size = [0, 1, 2, 3, 4, 5, 6, 7, 8, 9, 10, 11, 12, 13, 14, 15, 16, 17, 18, 19] := by kernel_rfl
theorem body29 : Tryd.f29.body = some (.seq (.region 0 (regOf Tryd.f29 0) false) (.seq (.region 1 (regOf Tryd.f29 1) false) (.ret))) := by kernel_rfl
theorem P29_0 : (List.range (regOf Tryd.f29 0).size).map (pj (regOf Tryd.f29 0)) = [some (some 2, .box 59 (.tmp 0), 0, none), some (some 3, .box 59 (.tmp 1), 0, none), some (some 4, .assign (.const (.bool false)), 4, none)] := by kernel_rfl
theorem P29_1 : (List.range (regOf Tryd.f29 1).size).map (pj (regOf Tryd.f29 1)) = [some (some 5, .fieldAddr 59 (.tmp 2) 2, 0, none), some (some 6, .load 3 (.tmp 5), 3, none), some (some 7, .fieldAddr 59 (.tmp 3) 2, 0, none), some (some 8, .load 3 (.tmp 7), 3, none), some (some 9, .call { callee := .value (.func 41), args := #[.tmp 6, .tmp 8], argTypes := #[3, 3] }, 4, none), some (some 10, .move (.tmp 9), 4, none), some (some 11, .fieldAddr 59 (.tmp 2) 2, 0, some (5, false)), some (some 12, .load 3 (.tmp 11), 3, some (5, false)), some (some 13, .fieldAddr 59 (.tmp 3) 2, 0, some (5, false)), some (some 14, .load 3 (.tmp 13), 3, some (5, false)), some (some 15, .binOp .eql 3 (.tmp 12) (.tmp 14) 3, 4, some (5, false)), some (some 16, .move (.tmp 15), 4, some (5, false)), some (some 17, .fieldAddr 59 (.tmp 2) 1, 0, some (11, true)), some (some 18, .load 3 (.tmp 17), 3, some (11, true)), some (some 19, .fieldAddr 59 (.tmp 3) 1, 0, some (11, true)), some (some 20, .load 3 (.tmp 19), 3, some (11, true)), some (some 21, .binOp .eql 3 (.tmp 18) (.tmp 20) 3, 4, some (11, true)), some (some 22, .pick (.tmp 16) (.tmp 21) (.const (.bool false)), 4, some (5, false)), some (some 23, .pick (.tmp 10) (.const (.bool true)) (.tmp 22), 4, none), some (some 4, .assign (.tmp 23), 4, none)] := by kernel_rfl
theorem cl41 : callable Tryd.f41 = true := by kernel_rfl
theorem g29_1_5 : dstOf (regOf Tryd.f29 1) 5 = some 10 := by kernel_rfl
theorem g29_1_11 : dstOf (regOf Tryd.f29 1) 11 = some 16 := by kernel_rfl
set_option maxHeartbeats 4000000 in
theorem fresher (r o : R4) (hr : okR r = true) (ho : okR o = true) (w : World) : Calls Tryd.prog 29 #[.agg #[.int .i64 r.1, .int .i64 r.2.1, .int .i64 r.2.2.1, .int .i64 r.2.2.2], .agg #[.int .i64 o.1, .int .i64 o.2.1, .int .i64 o.2.2.1, .int .i64 o.2.2.2]] w fun e w' => e = .returned (.bool (freshB r o)) ∧ Kp w w' (fun _ => False) := by
 have K_0 := Kp.refl w (fun _ => False)
 have hr9 := okR_b hr
 have ho9 := okR_b ho
 refine enter (args := [Value.agg #[Value.int .i64 r.1, Value.int .i64 r.2.1, Value.int .i64 r.2.2.1, Value.int .i64 r.2.2.2], Value.agg #[Value.int .i64 o.1, Value.int .i64 o.2.1, Value.int .i64 o.2.2.1, Value.int .i64 o.2.2.2]]) (n := 24) Tryd.func29 body29 rfl rfl rfl ?_
 intro a hE
 refine c_reg R29_0_l ?_
 refine p_cons (s_box (pl P29_0 0) hE wn_none rfl rfl ?_)
 clear hE a; intro g1 w2 z3 B_g1 hk a hE
 replace B_g1 : w2.heap[g1]? = some (.cells #[Value.int .i64 r.1, Value.int .i64 r.2.1, Value.int .i64 r.2.2.1, Value.int .i64 r.2.2.2] 59 (0, 0)) := B_g1
 have z_0_g1 := Nat.le_trans K_0.kept.1 z3
 replace K_0 := K_0.then_ hk (fun _ h => h.elim)
 clear hk
 refine p_cons (s_box (pl P29_0 1) hE wn_none rfl rfl ?_)
 clear hE a; intro g4 w5 z6 B_g4 hk a hE
 replace B_g4 : w5.heap[g4]? = some (.cells #[Value.int .i64 o.1, Value.int .i64 o.2.1, Value.int .i64 o.2.2.1, Value.int .i64 o.2.2.2] 59 (0, 0)) := B_g4
 have n_g1_g4 : g1 ≠ g4 := ne_new B_g1 z6
 have z_0_g4 := Nat.le_trans K_0.kept.1 z6
 replace B_g1 := kp_blk B_g1 hk (fun h => h)
 replace K_0 := K_0.then_ hk (fun _ h => h.elim)
 clear hk
 refine q0 (pl P29_0 2) hE (st_assign rfl) ?_; clear hE a; intro a hE
 refine p_nil (x_norm (c_reg R29_1_l ?_))
 refine qn hE (rc (pl P29_1 0) (st_fieldAddr Tryd.underlying59 rfl tS3 rfl rfl) (rc (pl P29_1 1) (st_load1 tA3 rfl ((blk_cell B_g1 2).trans rfl)) (rc (pl P29_1 2) (st_fieldAddr Tryd.underlying59 rfl tS3 rfl rfl) (rc (pl P29_1 3) (st_load1 tA3 rfl ((blk_cell B_g4 2).trans rfl)) rn)))) ?_; clear hE a; intro a hE
 refine p_cons (s_call (xs := [Operand.tmp 6, Operand.tmp 8]) (args := [Value.int .i64 r.2.2.1, Value.int .i64 o.2.2.1]) (pl P29_1 4) hE wn_none rfl rfl Tryd.func41 cl41 (newer r.2.2.1 o.2.2.1 (by omega) (by omega) _) ?_)
 rintro e w7 ⟨rfl, hk⟩
 replace B_g1 := kp_blk B_g1 hk (fun h => h)
 replace B_g4 := kp_blk B_g4 hk (fun h => h)
 replace K_0 := K_0.then_ hk (fun _ h => h.elim)
 refine ⟨_, rfl, ?_⟩; clear hE a; intro a hE
 refine q0 (pl P29_1 5) hE (st_move rfl) ?_; clear hE a; intro a hE
 rcases Bool.eq_false_or_eq_true (decide (cmpF r.2.2.1 o.2.2.1 = 2)) with hb8 | hb8
 ·
  rw [hb8] at hE
  have hb8P := of_decide_eq_true hb8
  refine qn hE (rk (pl P29_1 6) (wn_some g29_1_5 rfl rfl) (rk (pl P29_1 7) (wn_some g29_1_5 rfl rfl) (rk (pl P29_1 8) (wn_some g29_1_5 rfl rfl) (rk (pl P29_1 9) (wn_some g29_1_5 rfl rfl) (rk (pl P29_1 10) (wn_some g29_1_5 rfl rfl) (rk (pl P29_1 11) (wn_some g29_1_5 rfl rfl) (rk (pl P29_1 12) (wn_undef g29_1_11 rfl) (rk (pl P29_1 13) (wn_undef g29_1_11 rfl) (rk (pl P29_1 14) (wn_undef g29_1_11 rfl) (rk (pl P29_1 15) (wn_undef g29_1_11 rfl) (rk (pl P29_1 16) (wn_undef g29_1_11 rfl) (rk (pl P29_1 17) (wn_some g29_1_5 rfl rfl) (rc (pl P29_1 18) (st_pick rfl rfl) (rc (pl P29_1 19) (st_assign rfl) rn)))))))))))))) ?_; clear hE a; intro a hE
  refine p_nil (x_norm (wp_ret ?_))
  refine ret_one (v := Value.bool true) rfl hE (.tmp rfl .nil) ?_
  exact ⟨by unfold freshB; rw [hb8]; rfl, K_0⟩
 ·
  rw [hb8] at hE
  have hb8P := of_decide_eq_false hb8
  refine qn hE (rg (pl P29_1 6) (wn_some g29_1_5 rfl rfl) (st_fieldAddr Tryd.underlying59 rfl tS3 rfl rfl) (rg (pl P29_1 7) (wn_some g29_1_5 rfl rfl) (st_load1 tA3 rfl ((blk_cell B_g1 2).trans rfl)) (rg (pl P29_1 8) (wn_some g29_1_5 rfl rfl) (st_fieldAddr Tryd.underlying59 rfl tS3 rfl rfl) (rg (pl P29_1 9) (wn_some g29_1_5 rfl rfl) (st_load1 tA3 rfl ((blk_cell B_g4 2).trans rfl)) rn)))) ?_; clear hE a; intro a hE
  rcases Decidable.em (r.2.2.1 = o.2.2.1) with hc9 | hc9
  ·
   refine qn hE (rg (v := Value.bool true) (pl P29_1 10) (wn_some g29_1_5 rfl rfl) (st_eql rfl rfl (decide_eq_true hc9)) (rg (pl P29_1 11) (wn_some g29_1_5 rfl rfl) (st_move rfl) (rg (pl P29_1 12) (wn_some g29_1_11 rfl rfl) (st_fieldAddr Tryd.underlying59 rfl tS3 rfl rfl) (rg (pl P29_1 13) (wn_some g29_1_11 rfl rfl) (st_load1 tA3 rfl ((blk_cell B_g1 1).trans rfl)) (rg (pl P29_1 14) (wn_some g29_1_11 rfl rfl) (st_fieldAddr Tryd.underlying59 rfl tS3 rfl rfl) (rg (pl P29_1 15) (wn_some g29_1_11 rfl rfl) (st_load1 tA3 rfl ((blk_cell B_g4 1).trans rfl)) rn)))))) ?_; clear hE a; intro a hE
   rcases Decidable.em (r.2.1 = o.2.1) with hc10 | hc10
   ·
    refine qn hE (rg (v := Value.bool true) (pl P29_1 16) (wn_some g29_1_11 rfl rfl) (st_eql rfl rfl (decide_eq_true hc10)) (rg (pl P29_1 17) (wn_some g29_1_5 rfl rfl) (st_pick rfl rfl) (rc (pl P29_1 18) (st_pick rfl rfl) (rc (pl P29_1 19) (st_assign rfl) rn)))) ?_; clear hE a; intro a hE
    refine p_nil (x_norm (wp_ret ?_))
    refine ret_one (v := Value.bool true) rfl hE (.tmp rfl .nil) ?_
    exact ⟨by unfold freshB; rw [hb8, decide_eq_true hc9, decide_eq_true hc10]; rfl, K_0⟩
   ·
    refine qn hE (rg (v := Value.bool false) (pl P29_1 16) (wn_some g29_1_11 rfl rfl) (st_eql rfl rfl (decide_eq_false hc10)) (rg (pl P29_1 17) (wn_some g29_1_5 rfl rfl) (st_pick rfl rfl) (rc (pl P29_1 18) (st_pick rfl rfl) (rc (pl P29_1 19) (st_assign rfl) rn)))) ?_; clear hE a; intro a hE
    refine p_nil (x_norm (wp_ret ?_))
    refine ret_one (v := Value.bool false) rfl hE (.tmp rfl .nil) ?_
    exact ⟨by unfold freshB; rw [hb8, decide_eq_true hc9, decide_eq_false hc10]; rfl, K_0⟩
  ·
   refine qn hE (rg (v := Value.bool false) (pl P29_1 10) (wn_some g29_1_5 rfl rfl) (st_eql rfl rfl (decide_eq_false hc9)) (rg (pl P29_1 11) (wn_some g29_1_5 rfl rfl) (st_move rfl) (rk (pl P29_1 12) (wn_some g29_1_11 rfl rfl) (rk (pl P29_1 13) (wn_some g29_1_11 rfl rfl) (rk (pl P29_1 14) (wn_some g29_1_11 rfl rfl) (rk (pl P29_1 15) (wn_some g29_1_11 rfl rfl) (rk (pl P29_1 16) (wn_some g29_1_11 rfl rfl) (rg (pl P29_1 17) (wn_some g29_1_5 rfl rfl) (st_pick rfl rfl) (rc (pl P29_1 18) (st_pick rfl rfl) (rc (pl P29_1 19) (st_assign rfl) rn)))))))))) ?_; clear hE a; intro a hE
   refine p_nil (x_norm (wp_ret ?_))
   refine ret_one (v := Value.bool false) rfl hE (.tmp rfl .nil) ?_
   exact ⟨by unfold freshB; rw [hb8, decide_eq_false hc9]; rfl, K_0⟩
theorem R28_0_l : List.range (regOf Tryd.f28 0).size = [0, 1] := by kernel_rfl
theorem R28_1_l : List.range (regOf Tryd.f28 1).size = [0, 1, 2, 3, 4, 5, 6, 7, 8, 9, 10, 11, 12, 13, 14, 15, 16, 17, 18, 19, 20, 21, 22, 23] := by kernel_rfl
theorem R28_2_l : List.range (regOf Tryd.f28 2).size = [0] := by kernel_rfl
theorem R28_3_l : List.range (regOf Tryd.f28 3).size = [0] := by kernel_rfl
theorem body28 : Tryd.f28.body = some (.seq (.region 0 (regOf Tryd.f28 0) false) (.seq (.seq (.region 1 (regOf Tryd.f28 1) false) (.cond (Operand.tmp 26) (.seq (.region 2 (regOf Tryd.f28 2) false) (.ret)) (.skip))) (.seq (.region 3 (regOf Tryd.f28 3) false) (.ret)))) := by kernel_rfl
theorem P28_0 : (List.range (regOf Tryd.f28 0).size).map (pj (regOf Tryd.f28 0)) = [some (some 1, .box 59 (.tmp 0), 0, none), some (some 2, .assign (.const (.int .i64 0)), 32, none)] := by kernel_rfl
theorem P28_1 : (List.range (regOf Tryd.f28 1).size).map (pj (regOf Tryd.f28 1)) = [some (some 3, .fieldAddr 59 (.tmp 1) 0, 0, none), some (some 4, .load 3 (.tmp 3), 3, none), some (some 5, .fieldAddr 59 (.tmp 1) 1, 0, none), some (some 6, .load 3 (.tmp 5), 3, none), some (some 7, .buildSlice 45 2 #[(0, .tmp 4), (1, .tmp 6)], 45, none), some (some 8, .call { callee := .value (.func 39), args := #[.tmp 7], argTypes := #[45] }, 4, none), some (some 9, .unOp .not 4 (.tmp 8), 4, none), some (some 10, .move (.tmp 9), 4, none), some (some 11, .fieldAddr 59 (.tmp 1) 2, 0, some (7, false)), some (some 12, .load 3 (.tmp 11), 3, some (7, false)), some (some 13, .buildSlice 45 1 #[(0, .tmp 12)], 45, some (7, false)), some (some 14, .call { callee := .value (.func 40), args := #[.tmp 13], argTypes := #[45] }, 4, some (7, false)), some (some 15, .unOp .not 4 (.tmp 14), 4, some (7, false)), some (some 16, .pick (.tmp 10) (.const (.bool true)) (.tmp 15), 4, none), some (some 17, .move (.tmp 16), 4, none), some (some 18, .fieldAddr 59 (.tmp 1) 3, 0, some (14, false)), some (some 19, .load 3 (.tmp 18), 3, some (14, false)), some (some 20, .binOp .lss 3 (.tmp 19) (.const (.int .i64 0)) 3, 4, some (14, false)), some (some 21, .pick (.tmp 17) (.const (.bool true)) (.tmp 20), 4, none), some (some 22, .move (.tmp 21), 4, none), some (some 23, .fieldAddr 59 (.tmp 1) 3, 0, some (19, false)), some (some 24, .load 3 (.tmp 23), 3, some (19, false)), some (some 25, .binOp .gtr 3 (.tmp 24) (.const (.int .i64 2305843009213693952)) 3, 4, some (19, false)), some (some 26, .pick (.tmp 22) (.const (.bool true)) (.tmp 25), 4, none)] := by kernel_rfl
theorem cl39 : callable Tryd.f39 = true := by kernel_rfl
theorem g28_1_7 : dstOf (regOf Tryd.f28 1) 7 = some 10 := by kernel_rfl
theorem g28_1_14 : dstOf (regOf Tryd.f28 1) 14 = some 17 := by kernel_rfl
theorem g28_1_19 : dstOf (regOf Tryd.f28 1) 19 = some 22 := by kernel_rfl
theorem p28_2_0 : pj (regOf Tryd.f28 2) 0 = some (some 2, .assign (.const (.int .i64 1)), 32, none) := by kernel_rfl
theorem p28_3_0 : pj (regOf Tryd.f28 3) 0 = some (some 2, .assign (.const (.int .i64 0)), 32, none) := by kernel_rfl
set_option maxHeartbeats 4000000 in
theorem tcheck (r : R4) (w : World) : Calls Tryd.prog 28 #[.agg #[.int .i64 r.1, .int .i64 r.2.1, .int .i64 r.2.2.1, .int .i64 r.2.2.2]] w fun e w' => e = .returned (.int .i64 (bif okR r then 0 else 1)) ∧ Kp w w' (fun _ => False) := by
 have K_0 := Kp.refl w (fun _ => False)
 refine enter (args := [Value.agg #[Value.int .i64 r.1, Value.int .i64 r.2.1, Value.int .i64 r.2.2.1, Value.int .i64 r.2.2.2]]) (n := 27) Tryd.func28 body28 rfl rfl rfl ?_
 intro a hE
 refine c_reg R28_0_l ?_
 refine p_cons (s_box (pl P28_0 0) hE wn_none rfl rfl ?_)
 clear hE a; intro g1 w2 z3 B_g1 hk a hE
 replace B_g1 : w2.heap[g1]? = some (.cells #[Value.int .i64 r.1, Value.int .i64 r.2.1, Value.int .i64 r.2.2.1, Value.int .i64 r.2.2.2] 59 (0, 0)) := B_g1
 have z_0_g1 := Nat.le_trans K_0.kept.1 z3
 replace K_0 := K_0.then_ hk (fun _ h => h.elim)
 clear hk
 refine q0 (pl P28_0 1) hE (st_assign rfl) ?_; clear hE a; intro a hE
 refine p_nil (x_norm (wp_seq (c_reg R28_1_l ?_)))
 refine qn hE (rc (pl P28_1 0) (st_fieldAddr Tryd.underlying59 rfl tS3 rfl rfl) (rc (pl P28_1 1) (st_load1 tA3 rfl ((blk_cell B_g1 0).trans rfl)) (rc (pl P28_1 2) (st_fieldAddr Tryd.underlying59 rfl tS3 rfl rfl) (rc (pl P28_1 3) (st_load1 tA3 rfl ((blk_cell B_g1 1).trans rfl)) rn)))) ?_; clear hE a; intro a hE
 refine p_cons (s_row (xs := [(0, Operand.tmp 4), (1, Operand.tmp 6)]) (vs := [(0, Value.int .i64 r.1), (1, Value.int .i64 r.2.1)]) (cs := #[Value.int .i64 r.1, Value.int .i64 r.2.1]) (pl P28_1 4) hE wn_none rfl Tryd.underlying45 rfl (by kernel_rfl) ?_)
 clear hE a; intro g4 w5 z6 B_g4 hk a hE
 have n_g1_g4 : g1 ≠ g4 := ne_new B_g1 z6
 have z_0_g4 := Nat.le_trans K_0.kept.1 z6
 replace B_g1 := kp_blk B_g1 hk (fun h => h)
 replace K_0 := K_0.then_ hk (fun _ h => h.elim)
 clear hk
 refine p_cons (s_call (xs := [Operand.tmp 7]) (args := [Value.slice (some ⟨g4, 0, none⟩) 2 2]) (pl P28_1 5) hE wn_none rfl rfl Tryd.func39 cl39 (nodes2 g4 r.1 r.2.1 _ B_g4) ?_)
 rintro e w7 ⟨rfl, hk⟩
 replace B_g1 := kp_blk B_g1 hk (fun h => h)
 replace B_g4 := kp_blk B_g4 hk (fun h => h)
 replace K_0 := K_0.then_ hk (fun _ h => h.elim)
 refine ⟨_, rfl, ?_⟩; clear hE a; intro a hE
 refine qn hE (rc (pl P28_1 6) (st_not rfl rfl) (rc (pl P28_1 7) (st_move rfl) rn)) ?_; clear hE a; intro a hE
 rcases Bool.eq_false_or_eq_true (nodeB r.1 && nodeB r.2.1) with hb8 | hb8
 ·
  rw [hb8] at hE
  refine qn hE (rg (pl P28_1 8) (wn_some g28_1_7 rfl rfl) (st_fieldAddr Tryd.underlying59 rfl tS3 rfl rfl) (rg (pl P28_1 9) (wn_some g28_1_7 rfl rfl) (st_load1 tA3 rfl ((blk_cell B_g1 2).trans rfl)) rn)) ?_; clear hE a; intro a hE
  refine p_cons (s_row (xs := [(0, Operand.tmp 12)]) (vs := [(0, Value.int .i64 r.2.2.1)]) (cs := #[Value.int .i64 r.2.2.1]) (pl P28_1 10) hE (wn_some g28_1_7 rfl rfl) rfl Tryd.underlying45 rfl (by kernel_rfl) ?_)
  clear hE a; intro g9 w10 z11 B_g9 hk a hE
  have n_g1_g9 : g1 ≠ g9 := ne_new B_g1 z11
  have n_g4_g9 : g4 ≠ g9 := ne_new B_g4 z11
  have z_0_g9 := Nat.le_trans K_0.kept.1 z11
  replace B_g1 := kp_blk B_g1 hk (fun h => h)
  replace B_g4 := kp_blk B_g4 hk (fun h => h)
  replace K_0 := K_0.then_ hk (fun _ h => h.elim)
  clear hk
  refine p_cons (s_call (xs := [Operand.tmp 13]) (args := [Value.slice (some ⟨g9, 0, none⟩) 1 1]) (pl P28_1 11) hE (wn_some g28_1_7 rfl rfl) rfl rfl Tryd.func40 cl40 (valid1 g9 r.2.2.1 _ B_g9) ?_)
  rintro e w12 ⟨rfl, hk⟩
  replace B_g1 := kp_blk B_g1 hk (fun h => h)
  replace B_g4 := kp_blk B_g4 hk (fun h => h)
  replace B_g9 := kp_blk B_g9 hk (fun h => h)
  replace K_0 := K_0.then_ hk (fun _ h => h.elim)
  refine ⟨_, rfl, ?_⟩; clear hE a; intro a hE
  refine qn hE (rg (pl P28_1 12) (wn_some g28_1_7 rfl rfl) (st_not rfl rfl) (rc (pl P28_1 13) (st_pick rfl rfl) (rc (pl P28_1 14) (st_move rfl) rn))) ?_; clear hE a; intro a hE
  rcases Bool.eq_false_or_eq_true (seqB r.2.2.1) with hb13 | hb13
  ·
   rw [hb13] at hE
   refine qn hE (rg (pl P28_1 15) (wn_some g28_1_14 rfl rfl) (st_fieldAddr Tryd.underlying59 rfl tS3 rfl rfl) (rg (pl P28_1 16) (wn_some g28_1_14 rfl rfl) (st_load1 tA3 rfl ((blk_cell B_g1 3).trans rfl)) rn)) ?_; clear hE a; intro a hE
   rcases Decidable.em (r.2.2.2 < 0) with hc14 | hc14
   ·
    refine qn hE (rg (v := Value.bool true) (pl P28_1 17) (wn_some g28_1_14 rfl rfl) (st_lss rfl rfl (decide_eq_true hc14)) (rc (pl P28_1 18) (st_pick rfl rfl) (rc (pl P28_1 19) (st_move rfl) (rk (pl P28_1 20) (wn_some g28_1_19 rfl rfl) (rk (pl P28_1 21) (wn_some g28_1_19 rfl rfl) (rk (pl P28_1 22) (wn_some g28_1_19 rfl rfl) (rc (pl P28_1 23) (st_pick rfl rfl) rn))))))) ?_; clear hE a; intro a hE
    refine p_nil (x_norm ?_)
    refine c_cond (t := true) hE rfl ?_
    refine c_reg R28_2_l ?_
    refine q0 p28_2_0 hE (st_assign rfl) ?_; clear hE a; intro a hE
    refine p_nil (x_norm (wp_ret (x_ret ?_)))
    refine ret_one (v := Value.int .i64 1) rfl hE (.tmp rfl .nil) ?_
    have e9 : okR r = false := by
     unfold okR
     rw [hb8, hb13]
     first | rfl | (rw [decide_eq_false (by omega)]; rfl)
    exact ⟨by rw [e9]; rfl, K_0⟩
   ·
    refine qn hE (rg (v := Value.bool false) (pl P28_1 17) (wn_some g28_1_14 rfl rfl) (st_lss rfl rfl (decide_eq_false hc14)) (rc (pl P28_1 18) (st_pick rfl rfl) (rc (pl P28_1 19) (st_move rfl) (rg (pl P28_1 20) (wn_some g28_1_19 rfl rfl) (st_fieldAddr Tryd.underlying59 rfl tS3 rfl rfl) (rg (pl P28_1 21) (wn_some g28_1_19 rfl rfl) (st_load1 tA3 rfl ((blk_cell B_g1 3).trans rfl)) rn))))) ?_; clear hE a; intro a hE
    rcases Decidable.em (2305843009213693952 < r.2.2.2) with hc15 | hc15
    ·
     refine qn hE (rg (v := Value.bool true) (pl P28_1 22) (wn_some g28_1_19 rfl rfl) (st_gtr rfl rfl (decide_eq_true hc15)) (rc (pl P28_1 23) (st_pick rfl rfl) rn)) ?_; clear hE a; intro a hE
     refine p_nil (x_norm ?_)
     refine c_cond (t := true) hE rfl ?_
     refine c_reg R28_2_l ?_
     refine q0 p28_2_0 hE (st_assign rfl) ?_; clear hE a; intro a hE
     refine p_nil (x_norm (wp_ret (x_ret ?_)))
     refine ret_one (v := Value.int .i64 1) rfl hE (.tmp rfl .nil) ?_
     have e9 : okR r = false := by
      unfold okR
      rw [hb8, hb13]
      first | rfl | (rw [decide_eq_false (by omega)]; rfl)
     exact ⟨by rw [e9]; rfl, K_0⟩
    ·
     refine qn hE (rg (v := Value.bool false) (pl P28_1 22) (wn_some g28_1_19 rfl rfl) (st_gtr rfl rfl (decide_eq_false hc15)) (rc (pl P28_1 23) (st_pick rfl rfl) rn)) ?_; clear hE a; intro a hE
     refine p_nil (x_norm ?_)
     refine c_cond (t := false) hE rfl ?_
     refine wp_skip (x_norm (c_reg R28_3_l ?_))
     refine q0 p28_3_0 hE (st_assign rfl) ?_; clear hE a; intro a hE
     refine p_nil (x_norm (wp_ret ?_))
     refine ret_one (v := Value.int .i64 0) rfl hE (.tmp rfl .nil) ?_
     exact ⟨by unfold okR; rw [hb8, hb13, decide_eq_true ⟨by omega, by omega⟩]; rfl, K_0⟩
  ·
   rw [hb13] at hE
   refine qn hE (rk (pl P28_1 15) (wn_some g28_1_14 rfl rfl) (rk (pl P28_1 16) (wn_some g28_1_14 rfl rfl) (rk (pl P28_1 17) (wn_some g28_1_14 rfl rfl) (rc (pl P28_1 18) (st_pick rfl rfl) (rc (pl P28_1 19) (st_move rfl) (rk (pl P28_1 20) (wn_some g28_1_19 rfl rfl) (rk (pl P28_1 21) (wn_some g28_1_19 rfl rfl) (rk (pl P28_1 22) (wn_some g28_1_19 rfl rfl) (rc (pl P28_1 23) (st_pick rfl rfl) rn))))))))) ?_; clear hE a; intro a hE
   refine p_nil (x_norm ?_)
   refine c_cond (t := true) hE rfl ?_
   refine c_reg R28_2_l ?_
   refine q0 p28_2_0 hE (st_assign rfl) ?_; clear hE a; intro a hE
   refine p_nil (x_norm (wp_ret (x_ret ?_)))
   refine ret_one (v := Value.int .i64 1) rfl hE (.tmp rfl .nil) ?_
   have e9 : okR r = false := by
    unfold okR
    rw [hb8, hb13]
    first | rfl | (rw [decide_eq_false (by omega)]; rfl)
   exact ⟨by rw [e9]; rfl, K_0⟩
 ·
  rw [hb8] at hE
  refine qn hE (rk (pl P28_1 8) (wn_some g28_1_7 rfl rfl) (rk (pl P28_1 9) (wn_some g28_1_7 rfl rfl) (rk (pl P28_1 10) (wn_some g28_1_7 rfl rfl) (rk (pl P28_1 11) (wn_some g28_1_7 rfl rfl) (rk (pl P28_1 12) (wn_some g28_1_7 rfl rfl) (rc (pl P28_1 13) (st_pick rfl rfl) (rc (pl P28_1 14) (st_move rfl) (rk (pl P28_1 15) (wn_some g28_1_14 rfl rfl) (rk (pl P28_1 16) (wn_some g28_1_14 rfl rfl) (rk (pl P28_1 17) (wn_some g28_1_14 rfl rfl) (rc (pl P28_1 18) (st_pick rfl rfl) (rc (pl P28_1 19) (st_move rfl) (rk (pl P28_1 20) (wn_some g28_1_19 rfl rfl) (rk (pl P28_1 21) (wn_some g28_1_19 rfl rfl) (rk (pl P28_1 22) (wn_some g28_1_19 rfl rfl) (rc (pl P28_1 23) (st_pick rfl rfl) rn)))))))))))))))) ?_; clear hE a; intro a hE
  refine p_nil (x_norm ?_)
  refine c_cond (t := true) hE rfl ?_
  refine c_reg R28_2_l ?_
  refine q0 p28_2_0 hE (st_assign rfl) ?_; clear hE a; intro a hE
  refine p_nil (x_norm (wp_ret (x_ret ?_)))
  refine ret_one (v := Value.int .i64 1) rfl hE (.tmp rfl .nil) ?_
  have e9 : okR r = false := by
   unfold okR
   rw [hb8]
   first | rfl | (rw [decide_eq_false (by omega)]; rfl)
  exact ⟨by rw [e9]; rfl, K_0⟩
theorem R15_0_l : List.range (regOf Tryd.f15 0).size = [0, 1] := by kernel_rfl
theorem R15_1_l : List.range (regOf Tryd.f15 1).size = [0, 1, 2, 3, 4, 5] := by kernel_rfl
theorem R15_3_l : List.range (regOf Tryd.f15 3).size = [0, 1, 2, 3, 4, 5] := by kernel_rfl
theorem body15 : Tryd.f15.body = some (.seq (.region 0 (regOf Tryd.f15 0) false) (.seq (.seq (.region 1 (regOf Tryd.f15 1) false) (.cond (Operand.tmp 9) (.seq (.region 2 (regOf Tryd.f15 2) false) (.ret)) (.skip))) (.seq (.region 3 (regOf Tryd.f15 3) false) (.ret)))) := by kernel_rfl
theorem P15_0 : (List.range (regOf Tryd.f15 0).size).map (pj (regOf Tryd.f15 0)) = [some (some 2, .assign (.const (.pointer none)), 25, none), some (some 3, .assign (.const (.int .i64 0)), 32, none)] := by kernel_rfl
theorem P15_1 : (List.range (regOf Tryd.f15 1).size).map (pj (regOf Tryd.f15 1)) = [some (some 4, .move (.tmp 0), 3, none), some (some 5, .binOp .lss 3 (.tmp 4) (.const (.int .i64 1)) 3, 4, none), some (some 6, .move (.tmp 5), 4, none), some (some 7, .move (.tmp 0), 3, some (2, false)), some (some 8, .binOp .gtr 3 (.tmp 7) (.const (.int .i64 32)) 3, 4, some (2, false)), some (some 9, .pick (.tmp 6) (.const (.bool true)) (.tmp 8), 4, none)] := by kernel_rfl
theorem g15_1_2 : dstOf (regOf Tryd.f15 1) 2 = some 6 := by kernel_rfl
theorem P15_3 : (List.range (regOf Tryd.f15 3).size).map (pj (regOf Tryd.f15 3)) = [some (some 10, .move (.tmp 0), 3, none), some (some 11, .makeMap 77 none, 77, none), some (some 12, .build 79 #[(0, .tmp 10), (1, .tmp 11)], 79, none), some (some 13, .box 79 (.tmp 12), 25, none), some (some 2, .assign (.tmp 13), 25, none), some (some 3, .assign (.const (.int .i64 0)), 32, none)] := by kernel_rfl
set_option maxHeartbeats 4000000 in
theorem tnew (w : World) : Calls Tryd.prog 15 #[.int .i64 32] w fun e w' => ∃ g gm, e = .returned (.tuple #[.pointer (some ⟨g, 0, none⟩), .int .i64 0]) ∧ w.heap.size ≤ g ∧ w.heap.size ≤ gm ∧ g ≠ gm ∧ w'.heap[g]? = some (.cells #[.int .i64 32, .map (some gm)] 79 (0, 0)) ∧ w'.heap[gm]? = some (.map #[] 0) ∧ Kp w w' (fun _ => False) := by
 have K_0 := Kp.refl w (fun _ => False)
 refine enter (args := [Value.int .i64 32]) (n := 14) Tryd.func15 body15 rfl rfl rfl ?_
 intro a hE
 refine c_reg R15_0_l ?_
 refine qn hE (rc (pl P15_0 0) (st_assign rfl) (rc (pl P15_0 1) (st_assign rfl) rn)) ?_; clear hE a; intro a hE
 refine p_nil (x_norm (wp_seq (c_reg R15_1_l ?_)))
 refine qn hE (rc (pl P15_1 0) (st_move rfl) (rc (pl P15_1 1) (st_lss (b := false) rfl rfl (by decide)) (rc (pl P15_1 2) (st_move rfl) (rg (pl P15_1 3) (wn_some g15_1_2 rfl rfl) (st_move rfl) (rg (pl P15_1 4) (wn_some g15_1_2 rfl rfl) (st_gtr (b := false) rfl rfl (by decide)) (rc (pl P15_1 5) (st_pick rfl rfl) rn)))))) ?_; clear hE a; intro a hE
 refine p_nil (x_norm ?_)
 refine c_cond (t := false) hE rfl ?_
 refine wp_skip (x_norm (c_reg R15_3_l ?_))
 refine q0 (pl P15_3 0) hE (st_move rfl) ?_; clear hE a; intro a hE
 refine p_cons (Mi.s_makeMap (pl P15_3 1) hE wn_none rfl ?_)
 clear hE a; intro g1 w2 z3 B_g1 hk a hE
 have z_0_g1 := Nat.le_trans K_0.kept.1 z3
 replace K_0 := K_0.then_ hk (fun _ h => h.elim)
 clear hk
 refine q0 (pl P15_3 2) hE (st_build (xs := [(0, Operand.tmp 10), (1, Operand.tmp 11)]) (vs := [(0, Value.int .i64 32), (1, Value.map (some g1))]) (cs := #[Value.int .i64 32, Value.map (some g1)]) rfl (by kernel_rfl)) ?_; clear hE a; intro a hE
 refine p_cons (s_box (pl P15_3 3) hE wn_none rfl rfl ?_)
 clear hE a; intro g4 w5 z6 B_g4 hk a hE
 replace B_g4 : w5.heap[g4]? = some (.cells #[Value.int .i64 32, Value.map (some g1)] 79 (0, 0)) := B_g4
 have n_g1_g4 : g1 ≠ g4 := ne_new B_g1 z6
 have z_0_g4 := Nat.le_trans K_0.kept.1 z6
 replace B_g1 := kp_blk B_g1 hk (fun h => h)
 replace K_0 := K_0.then_ hk (fun _ h => h.elim)
 clear hk
 refine qn hE (rc (pl P15_3 4) (st_assign rfl) (rc (pl P15_3 5) (st_assign rfl) rn)) ?_; clear hE a; intro a hE
 refine p_nil (x_norm (wp_ret ?_))
 refine ret_list (rs := [.tmp 2, .tmp 3]) (vs := [Value.pointer (some ⟨g4, 0, none⟩), Value.int .i64 0]) rfl hE (.tmp rfl (.tmp rfl .nil)) rfl ?_
 exact ⟨g4, g1, rfl, z_0_g4, z_0_g1, (Ne.symm n_g1_g4), B_g4, B_g1, K_0⟩
theorem R21_0_l : List.range (regOf Tryd.f21 0).size = [0, 1] := by kernel_rfl
theorem R21_1_l : List.range (regOf Tryd.f21 1).size = [0, 1] := by kernel_rfl
theorem R21_3_l : List.range (regOf Tryd.f21 3).size = [0, 1, 2, 3, 4, 5, 6, 7, 8, 9, 10, 11] := by kernel_rfl
theorem R21_4_l : List.range (regOf Tryd.f21 4).size = [0, 1] := by kernel_rfl
theorem R21_5_l : List.range (regOf Tryd.f21 5).size = [0, 1, 2] := by kernel_rfl
theorem R21_6_l : List.range (regOf Tryd.f21 6).size = [0, 1, 2] := by kernel_rfl
theorem body21 : Tryd.f21.body = some (.seq (.region 0 (regOf Tryd.f21 0) false) (.seq (.seq (.region 1 (regOf Tryd.f21 1) false) (.cond (Operand.tmp 9) (.seq (.region 2 (regOf Tryd.f21 2) false) (.ret)) (.skip))) (.seq (.region 3 (regOf Tryd.f21 3) false) (.seq (.seq (.region 4 (regOf Tryd.f21 4) false) (.cond (Operand.tmp 21) (.seq (.region 5 (regOf Tryd.f21 5) false) (.ret)) (.skip))) (.seq (.region 6 (regOf Tryd.f21 6) false) (.ret)))))) := by kernel_rfl
theorem P21_0 : (List.range (regOf Tryd.f21 0).size).map (pj (regOf Tryd.f21 0)) = [some (some 4, .alloc 59, 0, none), some (some 5, .assign (.const (.int .i64 0)), 32, none)] := by kernel_rfl
theorem tZ59 : (Tryd.prog.info? 59).bind (·.zero) = some (Value.agg #[Value.int .i64 0, Value.int .i64 0, Value.int .i64 0, Value.int .i64 0]) := by kernel_rfl
theorem P21_1 : (List.range (regOf Tryd.f21 1).size).map (pj (regOf Tryd.f21 1)) = [some (some 8, .move (.tmp 0), 25, none), some (some 9, .binOp .eql 25 (.tmp 8) (.const (.pointer none)) 25, 4, none)] := by kernel_rfl
theorem tP25 : Tryd.prog.underlying 25 = some (.pointer (Tryd.prog.pointee 25)) := by kernel_rfl
theorem P21_3 : (List.range (regOf Tryd.f21 3).size).map (pj (regOf Tryd.f21 3)) = [some (some 12, .move (.tmp 0), 25, none), some (some 13, .nilCheck (.tmp 12), 0, none), some (some 14, .fieldAddr 79 (.tmp 13) 1, 0, none), some (some 15, .load 77 (.tmp 14), 77, none), some (some 16, .move (.tmp 1), 3, none), some (some 17, .lookup 77 (.tmp 15) (.tmp 16) true, 80, none), some (some 11, .move (.tmp 17), 80, none), some (some 18, .extract (.tmp 11) 0, 59, none), some (some 19, .extract (.tmp 11) 1, 4, none), some (some 6, .alloc 59, 0, none), some (none, .store 59 (.tmp 6) (.tmp 18), 0, none), some (some 7, .assign (.tmp 19), 4, none)] := by kernel_rfl
theorem tS77 : (Tryd.prog.info? 77).map (·.size) = some 1 := by kernel_rfl
theorem tA77 : (Tryd.prog.underlying 77).map aggD = some false := by kernel_rfl
theorem tS59 : (Tryd.prog.info? 59).map (·.size) = some 4 := by kernel_rfl
theorem P21_4 : (List.range (regOf Tryd.f21 4).size).map (pj (regOf Tryd.f21 4)) = [some (some 20, .move (.tmp 7), 4, none), some (some 21, .unOp .not 4 (.tmp 20), 4, none)] := by kernel_rfl
theorem P21_6 : (List.range (regOf Tryd.f21 6).size).map (pj (regOf Tryd.f21 6)) = [some (some 23, .load 59 (.tmp 6), 59, none), some (none, .store 59 (.tmp 4) (.tmp 23), 0, none), some (some 5, .assign (.const (.int .i64 0)), 32, none)] := by kernel_rfl
theorem tA59 : (Tryd.prog.underlying 59).map aggD = some true := by kernel_rfl
set_option maxHeartbeats 4000000 in
theorem get_s (g gm ck : Nat) (es : Array MapEntry) (l : List (Int × R4)) (s : Int) (o : R4) (ho : getI l s = some o) (w : World) (hg : w.heap[g]? = some (.cells #[.int .i64 32, .map (some gm)] 79 (0, 0))) (hm : w.heap[gm]? = some (.map es ck)) (hF : MapI encR es ck l) : Calls Tryd.prog 21 #[.pointer (some ⟨g, 0, none⟩), .int .i64 s] w fun e w' => e = .returned (.tuple #[.agg #[.int .i64 o.1, .int .i64 o.2.1, .int .i64 o.2.2.1, .int .i64 o.2.2.2], .int .i64 0]) ∧ Kp w w' (fun _ => False) := by
 have K_0 := Kp.refl w (fun _ => False)
 have B_g := hg
 have B_gm := hm
 refine enter (args := [Value.pointer (some ⟨g, 0, none⟩), Value.int .i64 s]) (n := 24) Tryd.func21 body21 rfl rfl rfl ?_
 intro a hE
 refine c_reg R21_0_l ?_
 refine p_cons (s_alloc (pl P21_0 0) hE wn_none rfl tZ59 ?_)
 clear hE a; intro g1 w2 z3 B_g1 hk a hE
 replace B_g1 : w2.heap[g1]? = some (.cells #[Value.int .i64 0, Value.int .i64 0, Value.int .i64 0, Value.int .i64 0] 59 (0, 0)) := B_g1
 have n_g_g1 : g ≠ g1 := ne_new B_g z3
 have n_gm_g1 : gm ≠ g1 := ne_new B_gm z3
 have z_0_g1 := Nat.le_trans K_0.kept.1 z3
 replace B_g := kp_blk B_g hk (fun h => h)
 replace B_gm := kp_blk B_gm hk (fun h => h)
 replace K_0 := K_0.then_ hk (fun _ h => h.elim)
 clear hk
 refine q0 (pl P21_0 1) hE (st_assign rfl) ?_; clear hE a; intro a hE
 refine p_nil (x_norm (wp_seq (c_reg R21_1_l ?_)))
 refine qn hE (rc (pl P21_1 0) (st_move rfl) (rc (pl P21_1 1) (st_eqlP (b := false) tP25 rfl rfl rfl) rn)) ?_; clear hE a; intro a hE
 refine p_nil (x_norm ?_)
 refine c_cond (t := false) hE rfl ?_
 refine wp_skip (x_norm (c_reg R21_3_l ?_))
 refine qn hE (rc (pl P21_3 0) (st_move rfl) (rc (pl P21_3 1) (st_nil rfl) (rc (pl P21_3 2) (st_fieldAddr Tryd.underlying79 rfl tS77 rfl rfl) (rc (pl P21_3 3) (st_load1 tA77 rfl ((blk_cell B_g 1).trans rfl)) (rc (pl P21_3 4) (st_move rfl) (rg (v := Value.tuple #[Value.agg #[Value.int .i64 o.1, Value.int .i64 o.2.1, Value.int .i64 o.2.2.1, Value.int .i64 o.2.2.2], Value.bool true]) (pl P21_3 5) wn_none (Mi.st_look2 Tryd.underlying77 Tryd.underlying3 tZ59 rfl rfl hF B_gm (by rw [ho]; rfl) (by rw [ho]; rfl)) (rc (pl P21_3 6) (st_move rfl) (rc (pl P21_3 7) (st_extract rfl rfl) (rc (pl P21_3 8) (st_extract rfl rfl) rn))))))))) ?_; clear hE a; intro a hE
 refine p_cons (s_alloc (pl P21_3 9) hE wn_none rfl tZ59 ?_)
 clear hE a; intro g4 w5 z6 B_g4 hk a hE
 replace B_g4 : w5.heap[g4]? = some (.cells #[Value.int .i64 0, Value.int .i64 0, Value.int .i64 0, Value.int .i64 0] 59 (0, 0)) := B_g4
 have n_g_g4 : g ≠ g4 := ne_new B_g z6
 have n_gm_g4 : gm ≠ g4 := ne_new B_gm z6
 have n_g1_g4 : g1 ≠ g4 := ne_new B_g1 z6
 have z_0_g4 := Nat.le_trans K_0.kept.1 z6
 replace B_g := kp_blk B_g hk (fun h => h)
 replace B_gm := kp_blk B_gm hk (fun h => h)
 replace B_g1 := kp_blk B_g1 hk (fun h => h)
 replace K_0 := K_0.then_ hk (fun _ h => h.elim)
 clear hk
 refine p_cons (s_store (off := 0) (k := 4) (cs' := #[Value.int .i64 o.1, Value.int .i64 o.2.1, Value.int .i64 o.2.2.1, Value.int .i64 o.2.2.2]) (pl P21_3 10) hE wn_none tS59 rfl rfl rfl rfl B_g4 (Nat.le_of_ble_eq_true rfl) rfl ?_)
 intro w7 B_g4' hk
 replace B_g := kp_blk B_g hk n_g_g4
 replace B_gm := kp_blk B_gm hk n_gm_g4
 replace B_g1 := kp_blk B_g1 hk n_g1_g4
 replace K_0 := K_0.then_ hk (fun k h => by rw [show k = g4 from h]; exact Or.inr z_0_g4)
 replace B_g4 := B_g4'
 clear hk
 refine q0 (pl P21_3 11) hE (st_assign rfl) ?_; clear hE a; intro a hE
 refine p_nil (x_norm (wp_seq (c_reg R21_4_l ?_)))
 refine qn hE (rc (pl P21_4 0) (st_move rfl) (rc (pl P21_4 1) (st_not rfl rfl) rn)) ?_; clear hE a; intro a hE
 refine p_nil (x_norm ?_)
 refine c_cond (t := false) hE rfl ?_
 refine wp_skip (x_norm (c_reg R21_6_l ?_))
 refine q0 (pl P21_6 0) hE (st_loadN (off := 0) (k := 4) (vs := [Value.int .i64 o.1, Value.int .i64 o.2.1, Value.int .i64 o.2.2.1, Value.int .i64 o.2.2.2]) tA59 tS59 rfl B_g4 rfl rfl) ?_; clear hE a; intro a hE
 refine p_cons (s_store (off := 0) (k := 4) (cs' := #[Value.int .i64 o.1, Value.int .i64 o.2.1, Value.int .i64 o.2.2.1, Value.int .i64 o.2.2.2]) (pl P21_6 1) hE wn_none tS59 rfl rfl rfl rfl B_g1 (Nat.le_of_ble_eq_true rfl) rfl ?_)
 intro w8 B_g1' hk
 replace B_g := kp_blk B_g hk n_g_g1
 replace B_gm := kp_blk B_gm hk n_gm_g1
 replace B_g4 := kp_blk B_g4 hk (Ne.symm n_g1_g4)
 replace K_0 := K_0.then_ hk (fun k h => by rw [show k = g1 from h]; exact Or.inr z_0_g1)
 replace B_g1 := B_g1'
 clear hk
 refine q0 (pl P21_6 2) hE (st_assign rfl) ?_; clear hE a; intro a hE
 refine p_nil (x_norm (wp_ret ?_))
 refine ret_list (rs := [.cell 4 59, .tmp 5]) (vs := [Value.agg #[Value.int .i64 o.1, Value.int .i64 o.2.1, Value.int .i64 o.2.2.1, Value.int .i64 o.2.2.2], Value.int .i64 0]) rfl hE (.cellN (us := [Value.int .i64 o.1, Value.int .i64 o.2.1, Value.int .i64 o.2.2.1, Value.int .i64 o.2.2.2]) tA59 tS59 rfl B_g1 rfl (.tmp rfl .nil)) rfl ?_
 exact ⟨rfl, K_0⟩
theorem P21_5 : (List.range (regOf Tryd.f21 5).size).map (pj (regOf Tryd.f21 5)) = [some (some 22, .build 59 #[], 59, none), some (none, .store 59 (.tmp 4) (.tmp 22), 0, none), some (some 5, .assign (.const (.int .i64 8)), 32, none)] := by kernel_rfl
set_option maxHeartbeats 4000000 in
theorem get_n (g gm ck : Nat) (es : Array MapEntry) (l : List (Int × R4)) (s : Int) (ho : getI l s = none) (w : World) (hg : w.heap[g]? = some (.cells #[.int .i64 32, .map (some gm)] 79 (0, 0))) (hm : w.heap[gm]? = some (.map es ck)) (hF : MapI encR es ck l) : Calls Tryd.prog 21 #[.pointer (some ⟨g, 0, none⟩), .int .i64 s] w fun e w' => e = .returned (.tuple #[.agg #[.int .i64 0, .int .i64 0, .int .i64 0, .int .i64 0], .int .i64 8]) ∧ Kp w w' (fun _ => False) := by
 have K_0 := Kp.refl w (fun _ => False)
 have B_g := hg
 have B_gm := hm
 refine enter (args := [Value.pointer (some ⟨g, 0, none⟩), Value.int .i64 s]) (n := 24) Tryd.func21 body21 rfl rfl rfl ?_
 intro a hE
 refine c_reg R21_0_l ?_
 refine p_cons (s_alloc (pl P21_0 0) hE wn_none rfl tZ59 ?_)
 clear hE a; intro g1 w2 z3 B_g1 hk a hE
 replace B_g1 : w2.heap[g1]? = some (.cells #[Value.int .i64 0, Value.int .i64 0, Value.int .i64 0, Value.int .i64 0] 59 (0, 0)) := B_g1
 have n_g_g1 : g ≠ g1 := ne_new B_g z3
 have n_gm_g1 : gm ≠ g1 := ne_new B_gm z3
 have z_0_g1 := Nat.le_trans K_0.kept.1 z3
 replace B_g := kp_blk B_g hk (fun h => h)
 replace B_gm := kp_blk B_gm hk (fun h => h)
 replace K_0 := K_0.then_ hk (fun _ h => h.elim)
 clear hk
 refine q0 (pl P21_0 1) hE (st_assign rfl) ?_; clear hE a; intro a hE
 refine p_nil (x_norm (wp_seq (c_reg R21_1_l ?_)))
 refine qn hE (rc (pl P21_1 0) (st_move rfl) (rc (pl P21_1 1) (st_eqlP (b := false) tP25 rfl rfl rfl) rn)) ?_; clear hE a; intro a hE
 refine p_nil (x_norm ?_)
 refine c_cond (t := false) hE rfl ?_
 refine wp_skip (x_norm (c_reg R21_3_l ?_))
 refine qn hE (rc (pl P21_3 0) (st_move rfl) (rc (pl P21_3 1) (st_nil rfl) (rc (pl P21_3 2) (st_fieldAddr Tryd.underlying79 rfl tS77 rfl rfl) (rc (pl P21_3 3) (st_load1 tA77 rfl ((blk_cell B_g 1).trans rfl)) (rc (pl P21_3 4) (st_move rfl) (rg (v := Value.tuple #[Value.agg #[Value.int .i64 0, Value.int .i64 0, Value.int .i64 0, Value.int .i64 0], Value.bool false]) (pl P21_3 5) wn_none (Mi.st_look2 Tryd.underlying77 Tryd.underlying3 tZ59 rfl rfl hF B_gm (by rw [ho]; rfl) (by rw [ho]; rfl)) (rc (pl P21_3 6) (st_move rfl) (rc (pl P21_3 7) (st_extract rfl rfl) (rc (pl P21_3 8) (st_extract rfl rfl) rn))))))))) ?_; clear hE a; intro a hE
 refine p_cons (s_alloc (pl P21_3 9) hE wn_none rfl tZ59 ?_)
 clear hE a; intro g4 w5 z6 B_g4 hk a hE
 replace B_g4 : w5.heap[g4]? = some (.cells #[Value.int .i64 0, Value.int .i64 0, Value.int .i64 0, Value.int .i64 0] 59 (0, 0)) := B_g4
 have n_g_g4 : g ≠ g4 := ne_new B_g z6
 have n_gm_g4 : gm ≠ g4 := ne_new B_gm z6
 have n_g1_g4 : g1 ≠ g4 := ne_new B_g1 z6
 have z_0_g4 := Nat.le_trans K_0.kept.1 z6
 replace B_g := kp_blk B_g hk (fun h => h)
 replace B_gm := kp_blk B_gm hk (fun h => h)
 replace B_g1 := kp_blk B_g1 hk (fun h => h)
 replace K_0 := K_0.then_ hk (fun _ h => h.elim)
 clear hk
 refine p_cons (s_store (off := 0) (k := 4) (cs' := #[Value.int .i64 0, Value.int .i64 0, Value.int .i64 0, Value.int .i64 0]) (pl P21_3 10) hE wn_none tS59 rfl rfl rfl rfl B_g4 (Nat.le_of_ble_eq_true rfl) rfl ?_)
 intro w7 B_g4' hk
 replace B_g := kp_blk B_g hk n_g_g4
 replace B_gm := kp_blk B_gm hk n_gm_g4
 replace B_g1 := kp_blk B_g1 hk n_g1_g4
 replace K_0 := K_0.then_ hk (fun k h => by rw [show k = g4 from h]; exact Or.inr z_0_g4)
 replace B_g4 := B_g4'
 clear hk
 refine q0 (pl P21_3 11) hE (st_assign rfl) ?_; clear hE a; intro a hE
 refine p_nil (x_norm (wp_seq (c_reg R21_4_l ?_)))
 refine qn hE (rc (pl P21_4 0) (st_move rfl) (rc (pl P21_4 1) (st_not rfl rfl) rn)) ?_; clear hE a; intro a hE
 refine p_nil (x_norm ?_)
 refine c_cond (t := true) hE rfl ?_
 refine c_reg R21_5_l ?_
 refine q0 (pl P21_5 0) hE (st_build (xs := []) (vs := []) (cs := #[Value.int .i64 0, Value.int .i64 0, Value.int .i64 0, Value.int .i64 0]) rfl (by kernel_rfl)) ?_; clear hE a; intro a hE
 refine p_cons (s_store (off := 0) (k := 4) (cs' := #[Value.int .i64 0, Value.int .i64 0, Value.int .i64 0, Value.int .i64 0]) (pl P21_5 1) hE wn_none tS59 rfl rfl rfl rfl B_g1 (Nat.le_of_ble_eq_true rfl) rfl ?_)
 intro w8 B_g1' hk
 replace B_g := kp_blk B_g hk n_g_g1
 replace B_gm := kp_blk B_gm hk n_gm_g1
 replace B_g4 := kp_blk B_g4 hk (Ne.symm n_g1_g4)
 replace K_0 := K_0.then_ hk (fun k h => by rw [show k = g1 from h]; exact Or.inr z_0_g1)
 replace B_g1 := B_g1'
 clear hk
 refine q0 (pl P21_5 2) hE (st_assign rfl) ?_; clear hE a; intro a hE
 refine p_nil (x_norm (wp_ret (x_ret ?_)))
 refine ret_list (rs := [.cell 4 59, .tmp 5]) (vs := [Value.agg #[Value.int .i64 0, Value.int .i64 0, Value.int .i64 0, Value.int .i64 0], Value.int .i64 8]) rfl hE (.cellN (us := [Value.int .i64 0, Value.int .i64 0, Value.int .i64 0, Value.int .i64 0]) tA59 tS59 rfl B_g1 rfl (.tmp rfl .nil)) rfl ?_
 exact ⟨rfl, K_0⟩
theorem R16_0_l : List.range (regOf Tryd.f16 0).size = [0, 1] := by kernel_rfl
theorem R16_1_l : List.range (regOf Tryd.f16 1).size = [0, 1] := by kernel_rfl
theorem R16_3_l : List.range (regOf Tryd.f16 3).size = [0, 1, 2] := by kernel_rfl
theorem R16_4_l : List.range (regOf Tryd.f16 4).size = [0, 1] := by kernel_rfl
theorem R16_5_l : List.range (regOf Tryd.f16 5).size = [0, 1] := by kernel_rfl
theorem R16_7_l : List.range (regOf Tryd.f16 7).size = [0, 1, 2, 3, 4, 5, 6, 7] := by kernel_rfl
theorem R16_8_l : List.range (regOf Tryd.f16 8).size = [0] := by kernel_rfl
theorem R16_12_l : List.range (regOf Tryd.f16 12).size = [0] := by kernel_rfl
theorem body16 : Tryd.f16.body = some (.seq (.region 0 (regOf Tryd.f16 0) false) (.seq (.seq (.region 1 (regOf Tryd.f16 1) false) (.cond (Operand.tmp 9) (.seq (.region 2 (regOf Tryd.f16 2) false) (.ret)) (.skip))) (.seq (.seq (.region 3 (regOf Tryd.f16 3) false) (.seq (.region 4 (regOf Tryd.f16 4) false) (.cond (Operand.tmp 13) (.seq (.region 5 (regOf Tryd.f16 5) false) (.ret)) (.skip)))) (.seq (.region 6 (regOf Tryd.f16 6) true) (.seq (.block 0 (.seq (.region 7 (regOf Tryd.f16 7) false) (.cond (Operand.tmp 25) (.seq (.region 8 (regOf Tryd.f16 8) false) (.ret)) (.seq (.region 9 (regOf Tryd.f16 9) true) (.cond (Operand.tmp 33) (.seq (.region 10 (regOf Tryd.f16 10) false) (.ret)) (.skip)))))) (.seq (.region 11 (regOf Tryd.f16 11) true) (.seq (.region 12 (regOf Tryd.f16 12) false) (.ret)))))))) := by kernel_rfl
theorem P16_0 : (List.range (regOf Tryd.f16 0).size).map (pj (regOf Tryd.f16 0)) = [some (some 3, .box 59 (.tmp 1), 0, none), some (some 4, .assign (.const (.int .i64 0)), 32, none)] := by kernel_rfl
theorem P16_1 : (List.range (regOf Tryd.f16 1).size).map (pj (regOf Tryd.f16 1)) = [some (some 8, .move (.tmp 0), 25, none), some (some 9, .binOp .eql 25 (.tmp 8) (.const (.pointer none)) 25, 4, none)] := by kernel_rfl
theorem P16_3 : (List.range (regOf Tryd.f16 3).size).map (pj (regOf Tryd.f16 3)) = [some (some 10, .load 59 (.tmp 3), 59, none), some (some 11, .call { callee := .value (.func 28), args := #[.tmp 10], argTypes := #[59] }, 32, none), some (some 5, .assign (.tmp 11), 32, none)] := by kernel_rfl
theorem cl28 : callable Tryd.f28 = true := by kernel_rfl
theorem P16_4 : (List.range (regOf Tryd.f16 4).size).map (pj (regOf Tryd.f16 4)) = [some (some 12, .move (.tmp 5), 32, none), some (some 13, .binOp .neq 32 (.tmp 12) (.const (.int .i64 0)) 32, 4, none)] := by kernel_rfl
theorem ns16_6 : Region.noSelect (regOf Tryd.f16 6) = true := by kernel_rfl
theorem p16_6_0 : pj (regOf Tryd.f16 6) 0 = some (some 16, .move (.tmp 0), 25, none) := by kernel_rfl
theorem p16_6_1 : pj (regOf Tryd.f16 6) 1 = some (some 17, .nilCheck (.tmp 16), 0, none) := by kernel_rfl
theorem p16_6_2 : pj (regOf Tryd.f16 6) 2 = some (some 18, .fieldAddr 79 (.tmp 17) 1, 0, none) := by kernel_rfl
theorem p16_6_3 : pj (regOf Tryd.f16 6) 3 = some (some 19, .load 77 (.tmp 18), 77, none) := by kernel_rfl
theorem p16_6_4 : pj (regOf Tryd.f16 6) 4 = some (some 20, .fieldAddr 59 (.tmp 3) 0, 0, none) := by kernel_rfl
theorem p16_6_5 : pj (regOf Tryd.f16 6) 5 = some (some 21, .load 3 (.tmp 20), 3, none) := by kernel_rfl
theorem p16_6_6 : pj (regOf Tryd.f16 6) 6 = some (some 22, .lookup 77 (.tmp 19) (.tmp 21) true, 80, none) := by kernel_rfl
theorem p16_6_7 : pj (regOf Tryd.f16 6) 7 = some (some 15, .move (.tmp 22), 80, none) := by kernel_rfl
theorem p16_6_8 : pj (regOf Tryd.f16 6) 8 = some (some 23, .extract (.tmp 15) 0, 59, none) := by kernel_rfl
theorem p16_6_9 : pj (regOf Tryd.f16 6) 9 = some (some 24, .extract (.tmp 15) 1, 4, none) := by kernel_rfl
theorem p16_6_10 : pj (regOf Tryd.f16 6) 10 = some (some 6, .alloc 59, 0, none) := by kernel_rfl
theorem p16_6_11 : pj (regOf Tryd.f16 6) 11 = some (none, .store 59 (.tmp 6) (.tmp 23), 0, none) := by kernel_rfl
theorem p16_6_12 : pj (regOf Tryd.f16 6) 12 = some (some 7, .assign (.tmp 24), 4, none) := by kernel_rfl
theorem P16_7 : (List.range (regOf Tryd.f16 7).size).map (pj (regOf Tryd.f16 7)) = [some (some 26, .move (.tmp 7), 4, none), some (some 27, .move (.tmp 26), 4, none), some (some 28, .load 59 (.tmp 3), 59, some (1, true)), some (some 29, .load 59 (.tmp 6), 59, some (1, true)), some (some 30, .call { callee := .value (.func 29), args := #[.tmp 28, .tmp 29], argTypes := #[59, 59] }, 4, some (1, true)), some (some 31, .unOp .not 4 (.tmp 30), 4, some (1, true)), some (some 32, .pick (.tmp 27) (.tmp 31) (.const (.bool false)), 4, none), some (some 25, .assign (.tmp 32), 4, none)] := by kernel_rfl
theorem g16_7_1 : dstOf (regOf Tryd.f16 7) 1 = some 27 := by kernel_rfl
theorem cl29 : callable Tryd.f29 = true := by kernel_rfl
theorem ns16_9 : Region.noSelect (regOf Tryd.f16 9) = true := by kernel_rfl
theorem p16_9_0 : pj (regOf Tryd.f16 9) 0 = some (some 34, .move (.tmp 7), 4, none) := by kernel_rfl
theorem p16_9_1 : pj (regOf Tryd.f16 9) 1 = some (some 35, .unOp .not 4 (.tmp 34), 4, none) := by kernel_rfl
theorem p16_9_2 : pj (regOf Tryd.f16 9) 2 = some (some 36, .move (.tmp 35), 4, none) := by kernel_rfl
theorem g16_9_2 : dstOf (regOf Tryd.f16 9) 2 = some 36 := by kernel_rfl
theorem p16_9_3 : pj (regOf Tryd.f16 9) 3 = some (some 37, .move (.tmp 0), 25, some (2, true)) := by kernel_rfl
theorem p16_9_4 : pj (regOf Tryd.f16 9) 4 = some (some 38, .nilCheck (.tmp 37), 0, some (2, true)) := by kernel_rfl
theorem p16_9_5 : pj (regOf Tryd.f16 9) 5 = some (some 39, .fieldAddr 79 (.tmp 38) 1, 0, some (2, true)) := by kernel_rfl
theorem p16_9_6 : pj (regOf Tryd.f16 9) 6 = some (some 40, .load 77 (.tmp 39), 77, some (2, true)) := by kernel_rfl
theorem p16_9_7 : pj (regOf Tryd.f16 9) 7 = some (some 41, .call { callee := .builtin .len, args := #[.tmp 40], argTypes := #[77] }, 3, some (2, true)) := by kernel_rfl
theorem p16_9_8 : pj (regOf Tryd.f16 9) 8 = some (some 42, .move (.tmp 0), 25, some (2, true)) := by kernel_rfl
theorem p16_9_9 : pj (regOf Tryd.f16 9) 9 = some (some 43, .nilCheck (.tmp 42), 0, some (2, true)) := by kernel_rfl
theorem p16_9_10 : pj (regOf Tryd.f16 9) 10 = some (some 44, .fieldAddr 79 (.tmp 43) 0, 0, some (2, true)) := by kernel_rfl
theorem p16_9_11 : pj (regOf Tryd.f16 9) 11 = some (some 45, .load 3 (.tmp 44), 3, some (2, true)) := by kernel_rfl
theorem p16_9_12 : pj (regOf Tryd.f16 9) 12 = some (some 46, .binOp .geq 3 (.tmp 41) (.tmp 45) 3, 4, some (2, true)) := by kernel_rfl
theorem p16_9_13 : pj (regOf Tryd.f16 9) 13 = some (some 47, .pick (.tmp 36) (.tmp 46) (.const (.bool false)), 4, none) := by kernel_rfl
theorem p16_9_14 : pj (regOf Tryd.f16 9) 14 = some (some 33, .assign (.tmp 47), 4, none) := by kernel_rfl
theorem ns16_11 : Region.noSelect (regOf Tryd.f16 11) = true := by kernel_rfl
theorem p16_11_0 : pj (regOf Tryd.f16 11) 0 = some (some 48, .move (.tmp 0), 25, none) := by kernel_rfl
theorem p16_11_1 : pj (regOf Tryd.f16 11) 1 = some (some 49, .nilCheck (.tmp 48), 0, none) := by kernel_rfl
theorem p16_11_2 : pj (regOf Tryd.f16 11) 2 = some (some 50, .fieldAddr 79 (.tmp 49) 1, 0, none) := by kernel_rfl
theorem p16_11_3 : pj (regOf Tryd.f16 11) 3 = some (some 51, .load 77 (.tmp 50), 77, none) := by kernel_rfl
theorem p16_11_4 : pj (regOf Tryd.f16 11) 4 = some (some 52, .fieldAddr 59 (.tmp 3) 0, 0, none) := by kernel_rfl
theorem p16_11_5 : pj (regOf Tryd.f16 11) 5 = some (some 53, .load 3 (.tmp 52), 3, none) := by kernel_rfl
theorem p16_11_6 : pj (regOf Tryd.f16 11) 6 = some (some 54, .load 59 (.tmp 3), 59, none) := by kernel_rfl
theorem p16_11_7 : pj (regOf Tryd.f16 11) 7 = some (none, .mapUpdate 77 (.tmp 51) (.tmp 53) (.tmp 54), 0, none) := by kernel_rfl
theorem p16_12_0 : pj (regOf Tryd.f16 12) 0 = some (some 4, .assign (.const (.int .i64 0)), 32, none) := by kernel_rfl
theorem p16_8_0 : pj (regOf Tryd.f16 8) 0 = some (some 4, .assign (.const (.int .i64 9)), 32, none) := by kernel_rfl
theorem P16_5 : (List.range (regOf Tryd.f16 5).size).map (pj (regOf Tryd.f16 5)) = [some (some 14, .move (.tmp 5), 32, none), some (some 4, .assign (.tmp 14), 32, none)] := by kernel_rfl
set_option maxHeartbeats 4000000 in
theorem learn_any (g gm ck : Nat) (es : Array MapEntry) (l : List (Int × R4)) (r : R4) (w : World) (hok9 : ∀ {x o}, getI l x = some o → okR o = true) (hlt : l.length < 32) (hne : g ≠ gm) (hg : w.heap[g]? = some (.cells #[.int .i64 32, .map (some gm)] 79 (0, 0))) (hm : w.heap[gm]? = some (.map es ck)) (hF : MapI encR es ck l) : Calls Tryd.prog 16 #[.pointer (some ⟨g, 0, none⟩), .agg #[.int .i64 r.1, .int .i64 r.2.1, .int .i64 r.2.2.1, .int .i64 r.2.2.2]] w fun e w' => ∃ es' ck', e = .returned (.int .i64 (learnE l r)) ∧ MapI encR es' ck' (learnL l r) ∧ w'.heap[gm]? = some (.map es' ck') ∧ Kp w w' (fun k => k = gm) := by
 have K_0 := Kp.refl w (fun k => k = gm)
 have B_g := hg
 have B_gm := hm
 have n_g_gm := hne
 refine enter (args := [Value.pointer (some ⟨g, 0, none⟩), Value.agg #[Value.int .i64 r.1, Value.int .i64 r.2.1, Value.int .i64 r.2.2.1, Value.int .i64 r.2.2.2]]) (n := 55) Tryd.func16 body16 rfl rfl rfl ?_
 intro a hE
 refine c_reg R16_0_l ?_
 refine p_cons (s_box (pl P16_0 0) hE wn_none rfl rfl ?_)
 clear hE a; intro g1 w2 z3 B_g1 hk a hE
 replace B_g1 : w2.heap[g1]? = some (.cells #[Value.int .i64 r.1, Value.int .i64 r.2.1, Value.int .i64 r.2.2.1, Value.int .i64 r.2.2.2] 59 (0, 0)) := B_g1
 have n_g_g1 : g ≠ g1 := ne_new B_g z3
 have n_gm_g1 : gm ≠ g1 := ne_new B_gm z3
 have z_0_g1 := Nat.le_trans K_0.kept.1 z3
 replace B_g := kp_blk B_g hk (fun h => h)
 replace B_gm := kp_blk B_gm hk (fun h => h)
 replace K_0 := K_0.then_ hk (fun _ h => h.elim)
 clear hk
 refine q0 (pl P16_0 1) hE (st_assign rfl) ?_; clear hE a; intro a hE
 refine p_nil (x_norm (wp_seq (c_reg R16_1_l ?_)))
 refine qn hE (rc (pl P16_1 0) (st_move rfl) (rc (pl P16_1 1) (st_eqlP (b := false) tP25 rfl rfl rfl) rn)) ?_; clear hE a; intro a hE
 refine p_nil (x_norm ?_)
 refine c_cond (t := false) hE rfl ?_
 refine wp_skip (x_norm (wp_seq ?_))
 rcases Decidable.em (okR r = true) with hr | hr
 ·
  refine c_reg R16_3_l ?_
  refine q0 (pl P16_3 0) hE (st_loadN (off := 0) (k := 4) (vs := [Value.int .i64 r.1, Value.int .i64 r.2.1, Value.int .i64 r.2.2.1, Value.int .i64 r.2.2.2]) tA59 tS59 rfl B_g1 rfl rfl) ?_; clear hE a; intro a hE
  refine p_cons (s_call (xs := [Operand.tmp 10]) (args := [Value.agg #[Value.int .i64 r.1, Value.int .i64 r.2.1, Value.int .i64 r.2.2.1, Value.int .i64 r.2.2.2]]) (pl P16_3 1) hE wn_none rfl rfl Tryd.func28 cl28 (tcheck r _) ?_)
  rintro e w4 ⟨rfl, hk⟩
  replace B_g := kp_blk B_g hk (fun h => h)
  replace B_gm := kp_blk B_gm hk (fun h => h)
  replace B_g1 := kp_blk B_g1 hk (fun h => h)
  replace K_0 := K_0.then_ hk (fun _ h => h.elim)
  refine ⟨_, rfl, ?_⟩; clear hE a; intro a hE
  refine q0 (pl P16_3 2) hE (st_assign rfl) ?_; clear hE a; intro a hE
  refine p_nil (x_norm (c_reg R16_4_l ?_))
  refine qn hE (rc (pl P16_4 0) (st_move rfl) (rc (pl P16_4 1) (st_neq (b := false) rfl rfl (by rw [hr]; rfl)) rn)) ?_; clear hE a; intro a hE
  refine p_nil (x_norm ?_)
  refine c_cond (t := false) hE rfl ?_
  refine wp_skip (x_norm ?_)
  rcases Decidable.em ((getI l r.1).isSome = true) with hHAS | hHAS
  ·
   obtain ⟨o, ho⟩ := Option.isSome_iff_exists.1 hHAS
   refine c_drawMS (S := fun W => W.heap[g]? = some (.cells #[Value.int .i64 32, Value.map (some gm)] 79 (0, 0)) ∧ W.heap[gm]? = some (.map es ck) ∧ W.heap[g1]? = some (.cells #[Value.int .i64 r.1, Value.int .i64 r.2.1, Value.int .i64 r.2.2.1, Value.int .i64 r.2.2.2] 59 (0, 0)) ∧ True) rfl rfl (listed := #[false, false, false, false, false, false, false, false, false, false, false, false, false]) rfl pan_body (fun QQ hQ hend => ?_)
   have dr6_4 : ∀ (g6_10 : Nat) (W : World) (a : Act), En 55 a [(0, Value.pointer (some ⟨g, 0, none⟩)), (1, Value.agg #[Value.int .i64 r.1, Value.int .i64 r.2.1, Value.int .i64 r.2.2.1, Value.int .i64 r.2.2.2]), (3, Value.pointer (some ⟨g1, 0, none⟩)), (4, Value.int .i64 0), (5, Value.int .i64 (bif okR r then 0 else 1)), (6, Value.pointer (some ⟨g6_10, 0, none⟩)), (7, Value.bool true), (9, Value.bool false), (13, Value.bool false), (15, Value.tuple #[Value.agg #[Value.int .i64 o.1, Value.int .i64 o.2.1, Value.int .i64 o.2.2.1, Value.int .i64 o.2.2.2], Value.bool true]), (16, Value.pointer (some ⟨g, 0, none⟩)), (17, Value.pointer (some ⟨g, 0, none⟩)), (18, Value.pointer (some ⟨g, 1, none⟩)), (19, Value.map (some gm)), (20, Value.pointer (some ⟨g1, 0, none⟩)), (21, Value.int .i64 r.1), (22, Value.tuple #[Value.agg #[Value.int .i64 o.1, Value.int .i64 o.2.1, Value.int .i64 o.2.2.1, Value.int .i64 o.2.2.2], Value.bool true]), (23, Value.agg #[Value.int .i64 o.1, Value.int .i64 o.2.1, Value.int .i64 o.2.2.1, Value.int .i64 o.2.2.2]), (24, Value.bool true)] → W.heap[g]? = some (.cells #[Value.int .i64 32, Value.map (some gm)] 79 (0, 0)) → W.heap[gm]? = some (.map es ck) → W.heap[g1]? = some (.cells #[Value.int .i64 r.1, Value.int .i64 r.2.1, Value.int .i64 r.2.2.1, Value.int .i64 r.2.2.2] 59 (0, 0)) → W.heap[g6_10]? = some (.cells #[Value.int .i64 o.1, Value.int .i64 o.2.1, Value.int .i64 o.2.2.1, Value.int .i64 o.2.2.2] 59 (0, 0)) → g ≠ g6_10 → g1 ≠ g6_10 → g1 ≠ gm → g6_10 ≠ gm → w.heap.size ≤ g6_10 → Kp w W (fun k => k = gm) → wpAnyH Tryd.prog .any (regOf Tryd.f16 6) QQ (fun W => W.heap[g]? = some (.cells #[Value.int .i64 32, Value.map (some gm)] 79 (0, 0)) ∧ W.heap[gm]? = some (.map es ck) ∧ W.heap[g1]? = some (.cells #[Value.int .i64 r.1, Value.int .i64 r.2.1, Value.int .i64 r.2.2.1, Value.int .i64 r.2.2.2] 59 (0, 0)) ∧ True) 0 #[true, true, true, true, true, true, true, true, true, true, true, true, true] a W := by
    intro g6_10 w11 a hE B_g B_gm B_g1 B_g6_10 n_g_g6_10 n_g1_g6_10 n_g1_gm n_g6_10_gm z_0_g6_10 K_0
    refine d_end (by kernel_rfl) (hend _ _ ?_)
    refine wp_seq (wp_block (c_reg R16_7_l ?_))
    refine qn hE (rc (pl P16_7 0) (st_move rfl) (rc (pl P16_7 1) (st_move rfl) (rg (pl P16_7 2) (wn_some g16_7_1 rfl rfl) (st_loadN (off := 0) (k := 4) (vs := [Value.int .i64 r.1, Value.int .i64 r.2.1, Value.int .i64 r.2.2.1, Value.int .i64 r.2.2.2]) tA59 tS59 rfl B_g1 rfl rfl) (rg (pl P16_7 3) (wn_some g16_7_1 rfl rfl) (st_loadN (off := 0) (k := 4) (vs := [Value.int .i64 o.1, Value.int .i64 o.2.1, Value.int .i64 o.2.2.1, Value.int .i64 o.2.2.2]) tA59 tS59 rfl B_g6_10 rfl rfl) rn)))) ?_; clear hE a; intro a hE
    refine p_cons (s_call (xs := [Operand.tmp 28, Operand.tmp 29]) (args := [Value.agg #[Value.int .i64 r.1, Value.int .i64 r.2.1, Value.int .i64 r.2.2.1, Value.int .i64 r.2.2.2], Value.agg #[Value.int .i64 o.1, Value.int .i64 o.2.1, Value.int .i64 o.2.2.1, Value.int .i64 o.2.2.2]]) (pl P16_7 4) hE (wn_some g16_7_1 rfl rfl) rfl rfl Tryd.func29 cl29 (fresher r o hr (hok9 ho) _) ?_)
    rintro e w12 ⟨rfl, hk⟩
    replace B_g := kp_blk B_g hk (fun h => h)
    replace B_gm := kp_blk B_gm hk (fun h => h)
    replace B_g1 := kp_blk B_g1 hk (fun h => h)
    replace B_g6_10 := kp_blk B_g6_10 hk (fun h => h)
    replace K_0 := K_0.then_ hk (fun _ h => h.elim)
    refine ⟨_, rfl, ?_⟩; clear hE a; intro a hE
    refine qn hE (rg (pl P16_7 5) (wn_some g16_7_1 rfl rfl) (st_not rfl rfl) (rc (pl P16_7 6) (st_pick rfl rfl) (rc (pl P16_7 7) (st_assign rfl) rn))) ?_; clear hE a; intro a hE
    refine p_nil (x_norm ?_)
    rcases Bool.eq_false_or_eq_true (freshB r o) with hb13 | hb13
    ·
     rw [hb13] at hE
     refine c_cond (t := false) hE rfl ?_
     refine c_drawS (S := fun W => W.heap[g]? = some (.cells #[Value.int .i64 32, Value.map (some gm)] 79 (0, 0)) ∧ W.heap[gm]? = some (.map es ck) ∧ W.heap[g1]? = some (.cells #[Value.int .i64 r.1, Value.int .i64 r.2.1, Value.int .i64 r.2.2.1, Value.int .i64 r.2.2.2] 59 (0, 0)) ∧ W.heap[g6_10]? = some (.cells #[Value.int .i64 o.1, Value.int .i64 o.2.1, Value.int .i64 o.2.2.1, Value.int .i64 o.2.2.2] 59 (0, 0)) ∧ True) rfl rfl (listed := #[false, false, false, false, false, false, false, false, false, false, false, false, false, false, false]) rfl ?_
     intro w14 hh hk
     replace B_g := kp_blk B_g hk (fun h => h)
     replace B_gm := kp_blk B_gm hk (fun h => h)
     replace B_g1 := kp_blk B_g1 hk (fun h => h)
     replace B_g6_10 := kp_blk B_g6_10 hk (fun h => h)
     replace K_0 := K_0.then_ hk (fun _ h => h.elim)
     clear hh hk
     refine Rv.dq (v := Value.bool true) p16_9_0 ns16_9 hE wn_none ⟨B_g, B_gm, B_g1, B_g6_10, trivial⟩ (fun W hS => (st_move rfl)) ?_; clear hE a; intro a hE
     refine Rv.dq (v := Value.bool false) p16_9_1 ns16_9 hE wn_none ⟨B_g, B_gm, B_g1, B_g6_10, trivial⟩ (fun W hS => (st_not rfl rfl)) ?_; clear hE a; intro a hE
     refine Rv.dq (v := Value.bool false) p16_9_2 ns16_9 hE wn_none ⟨B_g, B_gm, B_g1, B_g6_10, trivial⟩ (fun W hS => (st_move rfl)) ?_; clear hE a; intro a hE
     refine Rv.dk p16_9_3 ns16_9 hE (wn_some g16_9_2 rfl rfl) ⟨B_g, B_gm, B_g1, B_g6_10, trivial⟩ ?_; clear hE a; intro a hE
     refine Rv.dk p16_9_4 ns16_9 hE (wn_some g16_9_2 rfl rfl) ⟨B_g, B_gm, B_g1, B_g6_10, trivial⟩ ?_; clear hE a; intro a hE
     refine Rv.dk p16_9_5 ns16_9 hE (wn_some g16_9_2 rfl rfl) ⟨B_g, B_gm, B_g1, B_g6_10, trivial⟩ ?_; clear hE a; intro a hE
     refine Rv.dk p16_9_6 ns16_9 hE (wn_some g16_9_2 rfl rfl) ⟨B_g, B_gm, B_g1, B_g6_10, trivial⟩ ?_; clear hE a; intro a hE
     refine Rv.dk p16_9_7 ns16_9 hE (wn_some g16_9_2 rfl rfl) ⟨B_g, B_gm, B_g1, B_g6_10, trivial⟩ ?_; clear hE a; intro a hE
     refine Rv.dk p16_9_8 ns16_9 hE (wn_some g16_9_2 rfl rfl) ⟨B_g, B_gm, B_g1, B_g6_10, trivial⟩ ?_; clear hE a; intro a hE
     refine Rv.dk p16_9_9 ns16_9 hE (wn_some g16_9_2 rfl rfl) ⟨B_g, B_gm, B_g1, B_g6_10, trivial⟩ ?_; clear hE a; intro a hE
     refine Rv.dk p16_9_10 ns16_9 hE (wn_some g16_9_2 rfl rfl) ⟨B_g, B_gm, B_g1, B_g6_10, trivial⟩ ?_; clear hE a; intro a hE
     refine Rv.dk p16_9_11 ns16_9 hE (wn_some g16_9_2 rfl rfl) ⟨B_g, B_gm, B_g1, B_g6_10, trivial⟩ ?_; clear hE a; intro a hE
     refine Rv.dk p16_9_12 ns16_9 hE (wn_some g16_9_2 rfl rfl) ⟨B_g, B_gm, B_g1, B_g6_10, trivial⟩ ?_; clear hE a; intro a hE
     refine Rv.dq (v := Value.bool false) p16_9_13 ns16_9 hE wn_none ⟨B_g, B_gm, B_g1, B_g6_10, trivial⟩ (fun W hS => (st_pick rfl rfl)) ?_; clear hE a; intro a hE
     refine Rv.dq (v := Value.bool false) p16_9_14 ns16_9 hE wn_none ⟨B_g, B_gm, B_g1, B_g6_10, trivial⟩ (fun W hS => (st_assign rfl)) ?_; clear hE a; intro a hE
     refine d_end (by kernel_rfl) ?_
     refine x_norm ?_
     refine c_cond (t := false) hE rfl ?_
     refine wp_skip (x_normB (x_norm ?_))
     refine c_drawS (S := fun W => W.heap[g]? = some (.cells #[Value.int .i64 32, Value.map (some gm)] 79 (0, 0)) ∧ W.heap[g1]? = some (.cells #[Value.int .i64 r.1, Value.int .i64 r.2.1, Value.int .i64 r.2.2.1, Value.int .i64 r.2.2.2] 59 (0, 0)) ∧ W.heap[g6_10]? = some (.cells #[Value.int .i64 o.1, Value.int .i64 o.2.1, Value.int .i64 o.2.2.1, Value.int .i64 o.2.2.2] 59 (0, 0)) ∧ True) rfl rfl (listed := #[false, false, false, false, false, false, false, false]) rfl ?_
     intro w15 hh hk
     replace B_g := kp_blk B_g hk (fun h => h)
     replace B_gm := kp_blk B_gm hk (fun h => h)
     replace B_g1 := kp_blk B_g1 hk (fun h => h)
     replace B_g6_10 := kp_blk B_g6_10 hk (fun h => h)
     replace K_0 := K_0.then_ hk (fun _ h => h.elim)
     clear hh hk
     refine Rv.dq (v := Value.pointer (some ⟨g, 0, none⟩)) p16_11_0 ns16_11 hE wn_none ⟨B_g, B_g1, B_g6_10, trivial⟩ (fun W hS => (st_move rfl)) ?_; clear hE a; intro a hE
     refine Rv.dq (v := Value.pointer (some ⟨g, 0, none⟩)) p16_11_1 ns16_11 hE wn_none ⟨B_g, B_g1, B_g6_10, trivial⟩ (fun W hS => (st_nil rfl)) ?_; clear hE a; intro a hE
     refine Rv.dq (v := Value.pointer (some ⟨g, 1, none⟩)) p16_11_2 ns16_11 hE wn_none ⟨B_g, B_g1, B_g6_10, trivial⟩ (fun W hS => (st_fieldAddr Tryd.underlying79 rfl tS77 rfl rfl)) ?_; clear hE a; intro a hE
     refine Rv.dq (v := Value.map (some gm)) p16_11_3 ns16_11 hE wn_none ⟨B_g, B_g1, B_g6_10, trivial⟩ (fun W hS => (st_load1 tA77 rfl ((blk_cell hS.1 1).trans rfl))) ?_; clear hE a; intro a hE
     refine Rv.dq (v := Value.pointer (some ⟨g1, 0, none⟩)) p16_11_4 ns16_11 hE wn_none ⟨B_g, B_g1, B_g6_10, trivial⟩ (fun W hS => (st_fieldAddr Tryd.underlying59 rfl tS3 rfl rfl)) ?_; clear hE a; intro a hE
     refine Rv.dq (v := Value.int .i64 r.1) p16_11_5 ns16_11 hE wn_none ⟨B_g, B_g1, B_g6_10, trivial⟩ (fun W hS => (st_load1 tA3 rfl ((blk_cell hS.2.1 0).trans rfl))) ?_; clear hE a; intro a hE
     refine Rv.dq (v := Value.agg #[Value.int .i64 r.1, Value.int .i64 r.2.1, Value.int .i64 r.2.2.1, Value.int .i64 r.2.2.2]) p16_11_6 ns16_11 hE wn_none ⟨B_g, B_g1, B_g6_10, trivial⟩ (fun W hS => (st_loadN (off := 0) (k := 4) (vs := [Value.int .i64 r.1, Value.int .i64 r.2.1, Value.int .i64 r.2.2.1, Value.int .i64 r.2.2.2]) tA59 tS59 rfl hS.2.1 rfl rfl)) ?_; clear hE a; intro a hE
     refine d_one (by kernel_rfl) rfl (Mi.s_putI (u := r) p16_11_7 hE wn_none Tryd.underlying77 Tryd.underlying3 rfl rfl rfl rfl (wf64 (by have := okR_b hr; omega) (by have := okR_b hr; omega)) hF B_gm ?_)
     intro esm17 ckm17 w16 MF_m17 B_gm' hk
     replace B_g := kp_blk B_g hk n_g_gm
     replace B_g1 := kp_blk B_g1 hk n_g1_gm
     replace B_g6_10 := kp_blk B_g6_10 hk n_g6_10_gm
     replace K_0 := K_0.then_ hk (fun k h => by rw [show k = gm from h]; exact Or.inl rfl)
     replace B_gm := B_gm'
     clear hk
     refine ⟨⟨B_g, B_g1, B_g6_10, trivial⟩, ?_⟩
     refine d_end (by kernel_rfl) ?_
     refine x_norm (c_reg R16_12_l ?_)
     refine q0 p16_12_0 hE (st_assign rfl) ?_; clear hE a; intro a hE
     refine p_nil (x_norm (wp_ret ?_))
     refine ret_one (v := Value.int .i64 0) rfl hE (.tmp rfl .nil) ?_
     have e8 : learnE l r = 0 := by unfold learnE; rw [if_pos hr, ho]; show (if freshB r o = true then _ else _) = _; rw [hb13]; rfl
     have e9 : learnL l r = putI l r.1 r := by unfold learnL; rw [if_pos hr, ho]; show (if freshB r o = true then _ else _) = _; rw [hb13]; rfl
     exact ⟨esm17, ckm17, by rw [e8], by rw [e9]; exact MF_m17, B_gm, K_0⟩
    ·
     rw [hb13] at hE
     refine c_cond (t := true) hE rfl ?_
     refine c_reg R16_8_l ?_
     refine q0 p16_8_0 hE (st_assign rfl) ?_; clear hE a; intro a hE
     refine p_nil (x_norm (wp_ret (x_retB (x_ret ?_))))
     refine ret_one (v := Value.int .i64 9) rfl hE (.tmp rfl .nil) ?_
     have e8 : learnE l r = 9 := by unfold learnE; rw [if_pos hr, ho]; show (if freshB r o = true then _ else _) = _; rw [hb13]; rfl
     have e9 : learnL l r = l := by unfold learnL; rw [if_pos hr, ho]; show (if freshB r o = true then _ else _) = _; rw [hb13]; rfl
     exact ⟨es, ck, by rw [e8], by rw [e9]; exact hF, B_gm, K_0⟩
   have dr6_3 : ∀ (g6_10 : Nat) (W : World) (a : Act), En 55 a [(0, Value.pointer (some ⟨g, 0, none⟩)), (1, Value.agg #[Value.int .i64 r.1, Value.int .i64 r.2.1, Value.int .i64 r.2.2.1, Value.int .i64 r.2.2.2]), (3, Value.pointer (some ⟨g1, 0, none⟩)), (4, Value.int .i64 0), (5, Value.int .i64 (bif okR r then 0 else 1)), (6, Value.pointer (some ⟨g6_10, 0, none⟩)), (9, Value.bool false), (13, Value.bool false), (15, Value.tuple #[Value.agg #[Value.int .i64 o.1, Value.int .i64 o.2.1, Value.int .i64 o.2.2.1, Value.int .i64 o.2.2.2], Value.bool true]), (16, Value.pointer (some ⟨g, 0, none⟩)), (17, Value.pointer (some ⟨g, 0, none⟩)), (18, Value.pointer (some ⟨g, 1, none⟩)), (19, Value.map (some gm)), (20, Value.pointer (some ⟨g1, 0, none⟩)), (21, Value.int .i64 r.1), (22, Value.tuple #[Value.agg #[Value.int .i64 o.1, Value.int .i64 o.2.1, Value.int .i64 o.2.2.1, Value.int .i64 o.2.2.2], Value.bool true]), (23, Value.agg #[Value.int .i64 o.1, Value.int .i64 o.2.1, Value.int .i64 o.2.2.1, Value.int .i64 o.2.2.2]), (24, Value.bool true)] → W.heap[g]? = some (.cells #[Value.int .i64 32, Value.map (some gm)] 79 (0, 0)) → W.heap[gm]? = some (.map es ck) → W.heap[g1]? = some (.cells #[Value.int .i64 r.1, Value.int .i64 r.2.1, Value.int .i64 r.2.2.1, Value.int .i64 r.2.2.2] 59 (0, 0)) → W.heap[g6_10]? = some (.cells #[Value.int .i64 0, Value.int .i64 0, Value.int .i64 0, Value.int .i64 0] 59 (0, 0)) → g ≠ g6_10 → g1 ≠ g6_10 → g1 ≠ gm → g6_10 ≠ gm → w.heap.size ≤ g6_10 → Kp w W (fun k => k = gm) → wpAnyH Tryd.prog .any (regOf Tryd.f16 6) QQ (fun W => W.heap[g]? = some (.cells #[Value.int .i64 32, Value.map (some gm)] 79 (0, 0)) ∧ W.heap[gm]? = some (.map es ck) ∧ W.heap[g1]? = some (.cells #[Value.int .i64 r.1, Value.int .i64 r.2.1, Value.int .i64 r.2.2.1, Value.int .i64 r.2.2.2] 59 (0, 0)) ∧ True) 2 #[true, true, true, true, true, true, true, true, true, true, true, false, false] a W := by
    intro g6_10 w18 a hE B_g B_gm B_g1 B_g6_10 n_g_g6_10 n_g1_g6_10 n_g1_gm n_g6_10_gm z_0_g6_10 K_0
    refine d_all (rs := [11]) (by kernel_rfl) rfl ?_
    refine all_cons (d_lit (listed' := #[true, true, true, true, true, true, true, true, true, true, true, true, false]) rfl ?_) ?_
    ·
     refine (s_store (off := 0) (k := 4) (cs' := #[Value.int .i64 o.1, Value.int .i64 o.2.1, Value.int .i64 o.2.2.1, Value.int .i64 o.2.2.2]) p16_6_11 hE wn_none tS59 rfl rfl rfl rfl B_g6_10 (Nat.le_of_ble_eq_true rfl) rfl ?_)
     intro w19 B_g6_10' hk
     replace B_g := kp_blk B_g hk n_g_g6_10
     replace B_gm := kp_blk B_gm hk (Ne.symm n_g6_10_gm)
     replace B_g1 := kp_blk B_g1 hk n_g1_g6_10
     replace K_0 := K_0.then_ hk (fun k h => by rw [show k = g6_10 from h]; exact Or.inr z_0_g6_10)
     replace B_g6_10 := B_g6_10'
     clear hk
     refine ⟨⟨B_g, B_gm, B_g1, trivial⟩, ?_⟩
     refine Rv.dq (listed' := #[true, true, true, true, true, true, true, true, true, true, true, true, true]) (v := Value.bool true) p16_6_12 ns16_6 hE wn_none ⟨B_g, B_gm, B_g1, trivial⟩ (fun W hS => (st_assign rfl)) ?_ (fun c a w h => hQ c a _ _ w h); clear hE a; intro a hE
     exact dr6_4 g6_10 _ a (En.sub hE ⟨rfl, rfl, rfl, rfl, rfl, rfl, rfl, rfl, rfl, rfl, rfl, rfl, rfl, rfl, rfl, rfl, rfl, rfl, rfl, trivial⟩) B_g B_gm B_g1 B_g6_10 n_g_g6_10 n_g1_g6_10 n_g1_gm n_g6_10_gm z_0_g6_10 K_0
    exact all_nil
   have dr6_2 : ∀ (W : World) (a : Act), En 55 a [(0, Value.pointer (some ⟨g, 0, none⟩)), (1, Value.agg #[Value.int .i64 r.1, Value.int .i64 r.2.1, Value.int .i64 r.2.2.1, Value.int .i64 r.2.2.2]), (3, Value.pointer (some ⟨g1, 0, none⟩)), (4, Value.int .i64 0), (5, Value.int .i64 (bif okR r then 0 else 1)), (9, Value.bool false), (13, Value.bool false), (15, Value.tuple #[Value.agg #[Value.int .i64 o.1, Value.int .i64 o.2.1, Value.int .i64 o.2.2.1, Value.int .i64 o.2.2.2], Value.bool true]), (16, Value.pointer (some ⟨g, 0, none⟩)), (17, Value.pointer (some ⟨g, 0, none⟩)), (18, Value.pointer (some ⟨g, 1, none⟩)), (19, Value.map (some gm)), (20, Value.pointer (some ⟨g1, 0, none⟩)), (21, Value.int .i64 r.1), (22, Value.tuple #[Value.agg #[Value.int .i64 o.1, Value.int .i64 o.2.1, Value.int .i64 o.2.2.1, Value.int .i64 o.2.2.2], Value.bool true]), (23, Value.agg #[Value.int .i64 o.1, Value.int .i64 o.2.1, Value.int .i64 o.2.2.1, Value.int .i64 o.2.2.2]), (24, Value.bool true)] → W.heap[g]? = some (.cells #[Value.int .i64 32, Value.map (some gm)] 79 (0, 0)) → W.heap[gm]? = some (.map es ck) → W.heap[g1]? = some (.cells #[Value.int .i64 r.1, Value.int .i64 r.2.1, Value.int .i64 r.2.2.1, Value.int .i64 r.2.2.2] 59 (0, 0)) → g1 ≠ gm → Kp w W (fun k => k = gm) → wpAnyH Tryd.prog .any (regOf Tryd.f16 6) QQ (fun W => W.heap[g]? = some (.cells #[Value.int .i64 32, Value.map (some gm)] 79 (0, 0)) ∧ W.heap[gm]? = some (.map es ck) ∧ W.heap[g1]? = some (.cells #[Value.int .i64 r.1, Value.int .i64 r.2.1, Value.int .i64 r.2.2.1, Value.int .i64 r.2.2.2] 59 (0, 0)) ∧ True) 3 #[true, true, true, true, true, true, true, true, true, true, false, false, false] a W := by
    intro w20 a hE B_g B_gm B_g1 n_g1_gm K_0
    refine d_all (rs := [10]) (by kernel_rfl) rfl ?_
    refine all_cons (d_lit (listed' := #[true, true, true, true, true, true, true, true, true, true, true, false, false]) rfl ?_) ?_
    ·
     refine (s_alloc p16_6_10 hE wn_none rfl tZ59 ?_)
     clear hE a; intro g6_10 w21 z22 B_g6_10 hk a hE
     replace B_g6_10 : w21.heap[g6_10]? = some (.cells #[Value.int .i64 0, Value.int .i64 0, Value.int .i64 0, Value.int .i64 0] 59 (0, 0)) := B_g6_10
     have n_g_g6_10 : g ≠ g6_10 := ne_new B_g z22
     have n_gm_g6_10 : gm ≠ g6_10 := ne_new B_gm z22
     have n_g1_g6_10 : g1 ≠ g6_10 := ne_new B_g1 z22
     have z_0_g6_10 := Nat.le_trans K_0.kept.1 z22
     replace B_g := kp_blk B_g hk (fun h => h)
     replace B_gm := kp_blk B_gm hk (fun h => h)
     replace B_g1 := kp_blk B_g1 hk (fun h => h)
     replace K_0 := K_0.then_ hk (fun _ h => h.elim)
     clear hk
     refine ⟨⟨B_g, B_gm, B_g1, trivial⟩, ?_⟩
     have n_g6_10_gm := Ne.symm n_gm_g6_10
     exact dr6_3 g6_10 _ a (En.sub hE ⟨rfl, rfl, rfl, rfl, rfl, rfl, rfl, rfl, rfl, rfl, rfl, rfl, rfl, rfl, rfl, rfl, rfl, rfl, trivial⟩) B_g B_gm B_g1 B_g6_10 n_g_g6_10 n_g1_g6_10 n_g1_gm n_g6_10_gm z_0_g6_10 K_0
    exact all_nil
   have dr6_1 : ∀ (g6_10 : Nat) (W : World) (a : Act), En 55 a [(0, Value.pointer (some ⟨g, 0, none⟩)), (1, Value.agg #[Value.int .i64 r.1, Value.int .i64 r.2.1, Value.int .i64 r.2.2.1, Value.int .i64 r.2.2.2]), (3, Value.pointer (some ⟨g1, 0, none⟩)), (4, Value.int .i64 0), (5, Value.int .i64 (bif okR r then 0 else 1)), (6, Value.pointer (some ⟨g6_10, 0, none⟩)), (9, Value.bool false), (13, Value.bool false), (16, Value.pointer (some ⟨g, 0, none⟩)), (17, Value.pointer (some ⟨g, 0, none⟩)), (18, Value.pointer (some ⟨g, 1, none⟩)), (19, Value.map (some gm)), (20, Value.pointer (some ⟨g1, 0, none⟩)), (21, Value.int .i64 r.1)] → W.heap[g]? = some (.cells #[Value.int .i64 32, Value.map (some gm)] 79 (0, 0)) → W.heap[gm]? = some (.map es ck) → W.heap[g1]? = some (.cells #[Value.int .i64 r.1, Value.int .i64 r.2.1, Value.int .i64 r.2.2.1, Value.int .i64 r.2.2.2] 59 (0, 0)) → W.heap[g6_10]? = some (.cells #[Value.int .i64 0, Value.int .i64 0, Value.int .i64 0, Value.int .i64 0] 59 (0, 0)) → g ≠ g6_10 → g1 ≠ g6_10 → g1 ≠ gm → g6_10 ≠ gm → w.heap.size ≤ g6_10 → Kp w W (fun k => k = gm) → wpAnyH Tryd.prog .any (regOf Tryd.f16 6) QQ (fun W => W.heap[g]? = some (.cells #[Value.int .i64 32, Value.map (some gm)] 79 (0, 0)) ∧ W.heap[gm]? = some (.map es ck) ∧ W.heap[g1]? = some (.cells #[Value.int .i64 r.1, Value.int .i64 r.2.1, Value.int .i64 r.2.2.1, Value.int .i64 r.2.2.2] 59 (0, 0)) ∧ True) 6 #[true, true, true, true, true, true, false, false, false, false, true, false, false] a W := by
    intro g6_10 w23 a hE B_g B_gm B_g1 B_g6_10 n_g_g6_10 n_g1_g6_10 n_g1_gm n_g6_10_gm z_0_g6_10 K_0
    refine d_all (rs := [6]) (by kernel_rfl) rfl ?_
    refine all_cons (d_lit (listed' := #[true, true, true, true, true, true, true, false, false, false, true, false, false]) rfl ?_) ?_
    ·
     refine (s_still (v := Value.tuple #[Value.agg #[Value.int .i64 o.1, Value.int .i64 o.2.1, Value.int .i64 o.2.2.1, Value.int .i64 o.2.2.2], Value.bool true]) p16_6_6 hE wn_none rfl (Mi.st_look2 Tryd.underlying77 Tryd.underlying3 tZ59 rfl rfl hF B_gm (by rw [ho]; rfl) (by rw [ho]; rfl)) ?_); clear hE a; intro a hE
     refine ⟨⟨B_g, B_gm, B_g1, trivial⟩, ?_⟩
     refine Rv.dq (listed' := #[true, true, true, true, true, true, true, true, false, false, true, false, false]) (v := Value.tuple #[Value.agg #[Value.int .i64 o.1, Value.int .i64 o.2.1, Value.int .i64 o.2.2.1, Value.int .i64 o.2.2.2], Value.bool true]) p16_6_7 ns16_6 hE wn_none ⟨B_g, B_gm, B_g1, trivial⟩ (fun W hS => (st_move rfl)) ?_ (fun c a w h => hQ c a _ _ w h); clear hE a; intro a hE
     refine Rv.dq (listed' := #[true, true, true, true, true, true, true, true, true, false, true, false, false]) (v := Value.agg #[Value.int .i64 o.1, Value.int .i64 o.2.1, Value.int .i64 o.2.2.1, Value.int .i64 o.2.2.2]) p16_6_8 ns16_6 hE wn_none ⟨B_g, B_gm, B_g1, trivial⟩ (fun W hS => (st_extract rfl rfl)) ?_ (fun c a w h => hQ c a _ _ w h); clear hE a; intro a hE
     refine Rv.dq (listed' := #[true, true, true, true, true, true, true, true, true, true, true, false, false]) (v := Value.bool true) p16_6_9 ns16_6 hE wn_none ⟨B_g, B_gm, B_g1, trivial⟩ (fun W hS => (st_extract rfl rfl)) ?_ (fun c a w h => hQ c a _ _ w h); clear hE a; intro a hE
     exact dr6_3 g6_10 _ a (En.sub hE ⟨rfl, rfl, rfl, rfl, rfl, rfl, rfl, rfl, rfl, rfl, rfl, rfl, rfl, rfl, rfl, rfl, rfl, rfl, trivial⟩) B_g B_gm B_g1 B_g6_10 n_g_g6_10 n_g1_g6_10 n_g1_gm n_g6_10_gm z_0_g6_10 K_0
    exact all_nil
   have dr6_0 : ∀ (W : World) (a : Act), En 55 a [(0, Value.pointer (some ⟨g, 0, none⟩)), (1, Value.agg #[Value.int .i64 r.1, Value.int .i64 r.2.1, Value.int .i64 r.2.2.1, Value.int .i64 r.2.2.2]), (3, Value.pointer (some ⟨g1, 0, none⟩)), (4, Value.int .i64 0), (5, Value.int .i64 (bif okR r then 0 else 1)), (9, Value.bool false), (13, Value.bool false), (16, Value.pointer (some ⟨g, 0, none⟩)), (17, Value.pointer (some ⟨g, 0, none⟩)), (18, Value.pointer (some ⟨g, 1, none⟩)), (19, Value.map (some gm)), (20, Value.pointer (some ⟨g1, 0, none⟩)), (21, Value.int .i64 r.1)] → W.heap[g]? = some (.cells #[Value.int .i64 32, Value.map (some gm)] 79 (0, 0)) → W.heap[gm]? = some (.map es ck) → W.heap[g1]? = some (.cells #[Value.int .i64 r.1, Value.int .i64 r.2.1, Value.int .i64 r.2.2.1, Value.int .i64 r.2.2.2] 59 (0, 0)) → Kp w W (fun k => k = gm) → wpAnyH Tryd.prog .any (regOf Tryd.f16 6) QQ (fun W => W.heap[g]? = some (.cells #[Value.int .i64 32, Value.map (some gm)] 79 (0, 0)) ∧ W.heap[gm]? = some (.map es ck) ∧ W.heap[g1]? = some (.cells #[Value.int .i64 r.1, Value.int .i64 r.2.1, Value.int .i64 r.2.2.1, Value.int .i64 r.2.2.2] 59 (0, 0)) ∧ True) 7 #[true, true, true, true, true, true, false, false, false, false, false, false, false] a W := by
    intro w24 a hE B_g B_gm B_g1 K_0
    refine d_all (rs := [6, 10]) (by kernel_rfl) rfl ?_
    refine all_cons (d_lit (listed' := #[true, true, true, true, true, true, true, false, false, false, false, false, false]) rfl ?_) ?_
    ·
     refine (s_still (v := Value.tuple #[Value.agg #[Value.int .i64 o.1, Value.int .i64 o.2.1, Value.int .i64 o.2.2.1, Value.int .i64 o.2.2.2], Value.bool true]) p16_6_6 hE wn_none rfl (Mi.st_look2 Tryd.underlying77 Tryd.underlying3 tZ59 rfl rfl hF B_gm (by rw [ho]; rfl) (by rw [ho]; rfl)) ?_); clear hE a; intro a hE
     refine ⟨⟨B_g, B_gm, B_g1, trivial⟩, ?_⟩
     refine Rv.dq (listed' := #[true, true, true, true, true, true, true, true, false, false, false, false, false]) (v := Value.tuple #[Value.agg #[Value.int .i64 o.1, Value.int .i64 o.2.1, Value.int .i64 o.2.2.1, Value.int .i64 o.2.2.2], Value.bool true]) p16_6_7 ns16_6 hE wn_none ⟨B_g, B_gm, B_g1, trivial⟩ (fun W hS => (st_move rfl)) ?_ (fun c a w h => hQ c a _ _ w h); clear hE a; intro a hE
     refine Rv.dq (listed' := #[true, true, true, true, true, true, true, true, true, false, false, false, false]) (v := Value.agg #[Value.int .i64 o.1, Value.int .i64 o.2.1, Value.int .i64 o.2.2.1, Value.int .i64 o.2.2.2]) p16_6_8 ns16_6 hE wn_none ⟨B_g, B_gm, B_g1, trivial⟩ (fun W hS => (st_extract rfl rfl)) ?_ (fun c a w h => hQ c a _ _ w h); clear hE a; intro a hE
     refine Rv.dq (listed' := #[true, true, true, true, true, true, true, true, true, true, false, false, false]) (v := Value.bool true) p16_6_9 ns16_6 hE wn_none ⟨B_g, B_gm, B_g1, trivial⟩ (fun W hS => (st_extract rfl rfl)) ?_ (fun c a w h => hQ c a _ _ w h); clear hE a; intro a hE
     have n_g1_gm := Ne.symm n_gm_g1
     exact dr6_2 _ a (En.sub hE ⟨rfl, rfl, rfl, rfl, rfl, rfl, rfl, rfl, rfl, rfl, rfl, rfl, rfl, rfl, rfl, rfl, rfl, trivial⟩) B_g B_gm B_g1 n_g1_gm K_0
    refine all_cons (d_lit (listed' := #[true, true, true, true, true, true, false, false, false, false, true, false, false]) rfl ?_) ?_
    ·
     refine (s_alloc p16_6_10 hE wn_none rfl tZ59 ?_)
     clear hE a; intro g6_10 w25 z26 B_g6_10 hk a hE
     replace B_g6_10 : w25.heap[g6_10]? = some (.cells #[Value.int .i64 0, Value.int .i64 0, Value.int .i64 0, Value.int .i64 0] 59 (0, 0)) := B_g6_10
     have n_g_g6_10 : g ≠ g6_10 := ne_new B_g z26
     have n_gm_g6_10 : gm ≠ g6_10 := ne_new B_gm z26
     have n_g1_g6_10 : g1 ≠ g6_10 := ne_new B_g1 z26
     have z_0_g6_10 := Nat.le_trans K_0.kept.1 z26
     replace B_g := kp_blk B_g hk (fun h => h)
     replace B_gm := kp_blk B_gm hk (fun h => h)
     replace B_g1 := kp_blk B_g1 hk (fun h => h)
     replace K_0 := K_0.then_ hk (fun _ h => h.elim)
     clear hk
     refine ⟨⟨B_g, B_gm, B_g1, trivial⟩, ?_⟩
     have n_g1_gm := Ne.symm n_gm_g1
     have n_g6_10_gm := Ne.symm n_gm_g6_10
     exact dr6_1 g6_10 _ a (En.sub hE ⟨rfl, rfl, rfl, rfl, rfl, rfl, rfl, rfl, rfl, rfl, rfl, rfl, rfl, rfl, trivial⟩) B_g B_gm B_g1 B_g6_10 n_g_g6_10 n_g1_g6_10 n_g1_gm n_g6_10_gm z_0_g6_10 K_0
    exact all_nil
   intro w5 hh hk
   replace B_g := kp_blk B_g hk (fun h => h)
   replace B_gm := kp_blk B_gm hk (fun h => h)
   replace B_g1 := kp_blk B_g1 hk (fun h => h)
   replace K_0 := K_0.then_ hk (fun _ h => h.elim)
   clear hh hk
   refine Rv.dq (listed' := #[true, false, false, false, false, false, false, false, false, false, false, false, false]) (v := Value.pointer (some ⟨g, 0, none⟩)) p16_6_0 ns16_6 hE wn_none ⟨B_g, B_gm, B_g1, trivial⟩ (fun W hS => (st_move rfl)) ?_ (fun c a w h => hQ c a _ _ w h); clear hE a; intro a hE
   refine Rv.dq (listed' := #[true, true, false, false, false, false, false, false, false, false, false, false, false]) (v := Value.pointer (some ⟨g, 0, none⟩)) p16_6_1 ns16_6 hE wn_none ⟨B_g, B_gm, B_g1, trivial⟩ (fun W hS => (st_nil rfl)) ?_ (fun c a w h => hQ c a _ _ w h); clear hE a; intro a hE
   refine Rv.dq (listed' := #[true, true, true, false, false, false, false, false, false, false, false, false, false]) (v := Value.pointer (some ⟨g, 1, none⟩)) p16_6_2 ns16_6 hE wn_none ⟨B_g, B_gm, B_g1, trivial⟩ (fun W hS => (st_fieldAddr Tryd.underlying79 rfl tS77 rfl rfl)) ?_ (fun c a w h => hQ c a _ _ w h); clear hE a; intro a hE
   refine Rv.dq (listed' := #[true, true, true, true, false, false, false, false, false, false, false, false, false]) (v := Value.map (some gm)) p16_6_3 ns16_6 hE wn_none ⟨B_g, B_gm, B_g1, trivial⟩ (fun W hS => (st_load1 tA77 rfl ((blk_cell hS.1 1).trans rfl))) ?_ (fun c a w h => hQ c a _ _ w h); clear hE a; intro a hE
   refine Rv.dq (listed' := #[true, true, true, true, true, false, false, false, false, false, false, false, false]) (v := Value.pointer (some ⟨g1, 0, none⟩)) p16_6_4 ns16_6 hE wn_none ⟨B_g, B_gm, B_g1, trivial⟩ (fun W hS => (st_fieldAddr Tryd.underlying59 rfl tS3 rfl rfl)) ?_ (fun c a w h => hQ c a _ _ w h); clear hE a; intro a hE
   refine Rv.dq (listed' := #[true, true, true, true, true, true, false, false, false, false, false, false, false]) (v := Value.int .i64 r.1) p16_6_5 ns16_6 hE wn_none ⟨B_g, B_gm, B_g1, trivial⟩ (fun W hS => (st_load1 tA3 rfl ((blk_cell hS.2.2.1 0).trans rfl))) ?_ (fun c a w h => hQ c a _ _ w h); clear hE a; intro a hE
   have n_g1_gm := Ne.symm n_gm_g1
   exact dr6_0 _ a (En.sub hE ⟨rfl, rfl, rfl, rfl, rfl, rfl, rfl, rfl, rfl, rfl, rfl, rfl, rfl, trivial⟩) B_g B_gm B_g1 K_0
  ·
   have ho := Option.not_isSome_iff_eq_none.1 hHAS
   refine c_drawMS (S := fun W => W.heap[g]? = some (.cells #[Value.int .i64 32, Value.map (some gm)] 79 (0, 0)) ∧ W.heap[gm]? = some (.map es ck) ∧ W.heap[g1]? = some (.cells #[Value.int .i64 r.1, Value.int .i64 r.2.1, Value.int .i64 r.2.2.1, Value.int .i64 r.2.2.2] 59 (0, 0)) ∧ True) rfl rfl (listed := #[false, false, false, false, false, false, false, false, false, false, false, false, false]) rfl pan_body (fun QQ hQ hend => ?_)
   have dr6_4 : ∀ (g6_10 : Nat) (W : World) (a : Act), En 55 a [(0, Value.pointer (some ⟨g, 0, none⟩)), (1, Value.agg #[Value.int .i64 r.1, Value.int .i64 r.2.1, Value.int .i64 r.2.2.1, Value.int .i64 r.2.2.2]), (3, Value.pointer (some ⟨g1, 0, none⟩)), (4, Value.int .i64 0), (5, Value.int .i64 (bif okR r then 0 else 1)), (6, Value.pointer (some ⟨g6_10, 0, none⟩)), (7, Value.bool false), (9, Value.bool false), (13, Value.bool false), (15, Value.tuple #[Value.agg #[Value.int .i64 0, Value.int .i64 0, Value.int .i64 0, Value.int .i64 0], Value.bool false]), (16, Value.pointer (some ⟨g, 0, none⟩)), (17, Value.pointer (some ⟨g, 0, none⟩)), (18, Value.pointer (some ⟨g, 1, none⟩)), (19, Value.map (some gm)), (20, Value.pointer (some ⟨g1, 0, none⟩)), (21, Value.int .i64 r.1), (22, Value.tuple #[Value.agg #[Value.int .i64 0, Value.int .i64 0, Value.int .i64 0, Value.int .i64 0], Value.bool false]), (23, Value.agg #[Value.int .i64 0, Value.int .i64 0, Value.int .i64 0, Value.int .i64 0]), (24, Value.bool false)] → W.heap[g]? = some (.cells #[Value.int .i64 32, Value.map (some gm)] 79 (0, 0)) → W.heap[gm]? = some (.map es ck) → W.heap[g1]? = some (.cells #[Value.int .i64 r.1, Value.int .i64 r.2.1, Value.int .i64 r.2.2.1, Value.int .i64 r.2.2.2] 59 (0, 0)) → W.heap[g6_10]? = some (.cells #[Value.int .i64 0, Value.int .i64 0, Value.int .i64 0, Value.int .i64 0] 59 (0, 0)) → g ≠ g6_10 → g1 ≠ g6_10 → g1 ≠ gm → g6_10 ≠ gm → w.heap.size ≤ g6_10 → Kp w W (fun k => k = gm) → wpAnyH Tryd.prog .any (regOf Tryd.f16 6) QQ (fun W => W.heap[g]? = some (.cells #[Value.int .i64 32, Value.map (some gm)] 79 (0, 0)) ∧ W.heap[gm]? = some (.map es ck) ∧ W.heap[g1]? = some (.cells #[Value.int .i64 r.1, Value.int .i64 r.2.1, Value.int .i64 r.2.2.1, Value.int .i64 r.2.2.2] 59 (0, 0)) ∧ True) 0 #[true, true, true, true, true, true, true, true, true, true, true, true, true] a W := by
    intro g6_10 w33 a hE B_g B_gm B_g1 B_g6_10 n_g_g6_10 n_g1_g6_10 n_g1_gm n_g6_10_gm z_0_g6_10 K_0
    refine d_end (by kernel_rfl) (hend _ _ ?_)
    refine wp_seq (wp_block (c_reg R16_7_l ?_))
    refine qn hE (rc (pl P16_7 0) (st_move rfl) (rc (pl P16_7 1) (st_move rfl) (rk (pl P16_7 2) (wn_some g16_7_1 rfl rfl) (rk (pl P16_7 3) (wn_some g16_7_1 rfl rfl) (rk (pl P16_7 4) (wn_some g16_7_1 rfl rfl) (rk (pl P16_7 5) (wn_some g16_7_1 rfl rfl) (rc (pl P16_7 6) (st_pick rfl rfl) (rc (pl P16_7 7) (st_assign rfl) rn)))))))) ?_; clear hE a; intro a hE
    refine p_nil (x_norm ?_)
    refine c_cond (t := false) hE rfl ?_
    refine c_drawS (S := fun W => W.heap[g]? = some (.cells #[Value.int .i64 32, Value.map (some gm)] 79 (0, 0)) ∧ W.heap[gm]? = some (.map es ck) ∧ W.heap[g1]? = some (.cells #[Value.int .i64 r.1, Value.int .i64 r.2.1, Value.int .i64 r.2.2.1, Value.int .i64 r.2.2.2] 59 (0, 0)) ∧ W.heap[g6_10]? = some (.cells #[Value.int .i64 0, Value.int .i64 0, Value.int .i64 0, Value.int .i64 0] 59 (0, 0)) ∧ True) rfl rfl (listed := #[false, false, false, false, false, false, false, false, false, false, false, false, false, false, false]) rfl ?_
    intro w34 hh hk
    replace B_g := kp_blk B_g hk (fun h => h)
    replace B_gm := kp_blk B_gm hk (fun h => h)
    replace B_g1 := kp_blk B_g1 hk (fun h => h)
    replace B_g6_10 := kp_blk B_g6_10 hk (fun h => h)
    replace K_0 := K_0.then_ hk (fun _ h => h.elim)
    clear hh hk
    refine Rv.dq (v := Value.bool false) p16_9_0 ns16_9 hE wn_none ⟨B_g, B_gm, B_g1, B_g6_10, trivial⟩ (fun W hS => (st_move rfl)) ?_; clear hE a; intro a hE
    refine Rv.dq (v := Value.bool true) p16_9_1 ns16_9 hE wn_none ⟨B_g, B_gm, B_g1, B_g6_10, trivial⟩ (fun W hS => (st_not rfl rfl)) ?_; clear hE a; intro a hE
    refine Rv.dq (v := Value.bool true) p16_9_2 ns16_9 hE wn_none ⟨B_g, B_gm, B_g1, B_g6_10, trivial⟩ (fun W hS => (st_move rfl)) ?_; clear hE a; intro a hE
    refine Rv.dq (v := Value.pointer (some ⟨g, 0, none⟩)) p16_9_3 ns16_9 hE (wn_some g16_9_2 rfl rfl) ⟨B_g, B_gm, B_g1, B_g6_10, trivial⟩ (fun W hS => (st_move rfl)) ?_; clear hE a; intro a hE
    refine Rv.dq (v := Value.pointer (some ⟨g, 0, none⟩)) p16_9_4 ns16_9 hE (wn_some g16_9_2 rfl rfl) ⟨B_g, B_gm, B_g1, B_g6_10, trivial⟩ (fun W hS => (st_nil rfl)) ?_; clear hE a; intro a hE
    refine Rv.dq (v := Value.pointer (some ⟨g, 1, none⟩)) p16_9_5 ns16_9 hE (wn_some g16_9_2 rfl rfl) ⟨B_g, B_gm, B_g1, B_g6_10, trivial⟩ (fun W hS => (st_fieldAddr Tryd.underlying79 rfl tS77 rfl rfl)) ?_; clear hE a; intro a hE
    refine Rv.dq (v := Value.map (some gm)) p16_9_6 ns16_9 hE (wn_some g16_9_2 rfl rfl) ⟨B_g, B_gm, B_g1, B_g6_10, trivial⟩ (fun W hS => (st_load1 tA77 rfl ((blk_cell hS.1 1).trans rfl))) ?_; clear hE a; intro a hE
    refine Rv.dq (v := Value.int .i64 (l.length : Int)) p16_9_7 ns16_9 hE (wn_some g16_9_2 rfl rfl) ⟨B_g, B_gm, B_g1, B_g6_10, trivial⟩ (fun W hS => (Mi.st_lenM Tryd.underlying77 rfl hF hS.2.1)) ?_; clear hE a; intro a hE
    refine Rv.dq (v := Value.pointer (some ⟨g, 0, none⟩)) p16_9_8 ns16_9 hE (wn_some g16_9_2 rfl rfl) ⟨B_g, B_gm, B_g1, B_g6_10, trivial⟩ (fun W hS => (st_move rfl)) ?_; clear hE a; intro a hE
    refine Rv.dq (v := Value.pointer (some ⟨g, 0, none⟩)) p16_9_9 ns16_9 hE (wn_some g16_9_2 rfl rfl) ⟨B_g, B_gm, B_g1, B_g6_10, trivial⟩ (fun W hS => (st_nil rfl)) ?_; clear hE a; intro a hE
    refine Rv.dq (v := Value.pointer (some ⟨g, 0, none⟩)) p16_9_10 ns16_9 hE (wn_some g16_9_2 rfl rfl) ⟨B_g, B_gm, B_g1, B_g6_10, trivial⟩ (fun W hS => (st_fieldAddr Tryd.underlying79 rfl tS3 rfl rfl)) ?_; clear hE a; intro a hE
    refine Rv.dq (v := Value.int .i64 32) p16_9_11 ns16_9 hE (wn_some g16_9_2 rfl rfl) ⟨B_g, B_gm, B_g1, B_g6_10, trivial⟩ (fun W hS => (st_load1 tA3 rfl ((blk_cell hS.1 0).trans rfl))) ?_; clear hE a; intro a hE
    refine Rv.dq (v := Value.bool false) p16_9_12 ns16_9 hE (wn_some g16_9_2 rfl rfl) ⟨B_g, B_gm, B_g1, B_g6_10, trivial⟩ (fun W hS => (st_geq (b := false) rfl rfl (decide_eq_false (by omega)))) ?_; clear hE a; intro a hE
    refine Rv.dq (v := Value.bool false) p16_9_13 ns16_9 hE wn_none ⟨B_g, B_gm, B_g1, B_g6_10, trivial⟩ (fun W hS => (st_pick rfl rfl)) ?_; clear hE a; intro a hE
    refine Rv.dq (v := Value.bool false) p16_9_14 ns16_9 hE wn_none ⟨B_g, B_gm, B_g1, B_g6_10, trivial⟩ (fun W hS => (st_assign rfl)) ?_; clear hE a; intro a hE
    refine d_end (by kernel_rfl) ?_
    refine x_norm ?_
    refine c_cond (t := false) hE rfl ?_
    refine wp_skip (x_normB (x_norm ?_))
    refine c_drawS (S := fun W => W.heap[g]? = some (.cells #[Value.int .i64 32, Value.map (some gm)] 79 (0, 0)) ∧ W.heap[g1]? = some (.cells #[Value.int .i64 r.1, Value.int .i64 r.2.1, Value.int .i64 r.2.2.1, Value.int .i64 r.2.2.2] 59 (0, 0)) ∧ W.heap[g6_10]? = some (.cells #[Value.int .i64 0, Value.int .i64 0, Value.int .i64 0, Value.int .i64 0] 59 (0, 0)) ∧ True) rfl rfl (listed := #[false, false, false, false, false, false, false, false]) rfl ?_
    intro w35 hh hk
    replace B_g := kp_blk B_g hk (fun h => h)
    replace B_gm := kp_blk B_gm hk (fun h => h)
    replace B_g1 := kp_blk B_g1 hk (fun h => h)
    replace B_g6_10 := kp_blk B_g6_10 hk (fun h => h)
    replace K_0 := K_0.then_ hk (fun _ h => h.elim)
    clear hh hk
    refine Rv.dq (v := Value.pointer (some ⟨g, 0, none⟩)) p16_11_0 ns16_11 hE wn_none ⟨B_g, B_g1, B_g6_10, trivial⟩ (fun W hS => (st_move rfl)) ?_; clear hE a; intro a hE
    refine Rv.dq (v := Value.pointer (some ⟨g, 0, none⟩)) p16_11_1 ns16_11 hE wn_none ⟨B_g, B_g1, B_g6_10, trivial⟩ (fun W hS => (st_nil rfl)) ?_; clear hE a; intro a hE
    refine Rv.dq (v := Value.pointer (some ⟨g, 1, none⟩)) p16_11_2 ns16_11 hE wn_none ⟨B_g, B_g1, B_g6_10, trivial⟩ (fun W hS => (st_fieldAddr Tryd.underlying79 rfl tS77 rfl rfl)) ?_; clear hE a; intro a hE
    refine Rv.dq (v := Value.map (some gm)) p16_11_3 ns16_11 hE wn_none ⟨B_g, B_g1, B_g6_10, trivial⟩ (fun W hS => (st_load1 tA77 rfl ((blk_cell hS.1 1).trans rfl))) ?_; clear hE a; intro a hE
    refine Rv.dq (v := Value.pointer (some ⟨g1, 0, none⟩)) p16_11_4 ns16_11 hE wn_none ⟨B_g, B_g1, B_g6_10, trivial⟩ (fun W hS => (st_fieldAddr Tryd.underlying59 rfl tS3 rfl rfl)) ?_; clear hE a; intro a hE
    refine Rv.dq (v := Value.int .i64 r.1) p16_11_5 ns16_11 hE wn_none ⟨B_g, B_g1, B_g6_10, trivial⟩ (fun W hS => (st_load1 tA3 rfl ((blk_cell hS.2.1 0).trans rfl))) ?_; clear hE a; intro a hE
    refine Rv.dq (v := Value.agg #[Value.int .i64 r.1, Value.int .i64 r.2.1, Value.int .i64 r.2.2.1, Value.int .i64 r.2.2.2]) p16_11_6 ns16_11 hE wn_none ⟨B_g, B_g1, B_g6_10, trivial⟩ (fun W hS => (st_loadN (off := 0) (k := 4) (vs := [Value.int .i64 r.1, Value.int .i64 r.2.1, Value.int .i64 r.2.2.1, Value.int .i64 r.2.2.2]) tA59 tS59 rfl hS.2.1 rfl rfl)) ?_; clear hE a; intro a hE
    refine d_one (by kernel_rfl) rfl (Mi.s_putI (u := r) p16_11_7 hE wn_none Tryd.underlying77 Tryd.underlying3 rfl rfl rfl rfl (wf64 (by have := okR_b hr; omega) (by have := okR_b hr; omega)) hF B_gm ?_)
    intro esm37 ckm37 w36 MF_m37 B_gm' hk
    replace B_g := kp_blk B_g hk n_g_gm
    replace B_g1 := kp_blk B_g1 hk n_g1_gm
    replace B_g6_10 := kp_blk B_g6_10 hk n_g6_10_gm
    replace K_0 := K_0.then_ hk (fun k h => by rw [show k = gm from h]; exact Or.inl rfl)
    replace B_gm := B_gm'
    clear hk
    refine ⟨⟨B_g, B_g1, B_g6_10, trivial⟩, ?_⟩
    refine d_end (by kernel_rfl) ?_
    refine x_norm (c_reg R16_12_l ?_)
    refine q0 p16_12_0 hE (st_assign rfl) ?_; clear hE a; intro a hE
    refine p_nil (x_norm (wp_ret ?_))
    refine ret_one (v := Value.int .i64 0) rfl hE (.tmp rfl .nil) ?_
    have e8 : learnE l r = 0 := by unfold learnE; rw [if_pos hr, ho]
    have e9 : learnL l r = putI l r.1 r := by unfold learnL; rw [if_pos hr, ho]
    exact ⟨esm37, ckm37, by rw [e8], by rw [e9]; exact MF_m37, B_gm, K_0⟩
   have dr6_3 : ∀ (g6_10 : Nat) (W : World) (a : Act), En 55 a [(0, Value.pointer (some ⟨g, 0, none⟩)), (1, Value.agg #[Value.int .i64 r.1, Value.int .i64 r.2.1, Value.int .i64 r.2.2.1, Value.int .i64 r.2.2.2]), (3, Value.pointer (some ⟨g1, 0, none⟩)), (4, Value.int .i64 0), (5, Value.int .i64 (bif okR r then 0 else 1)), (6, Value.pointer (some ⟨g6_10, 0, none⟩)), (9, Value.bool false), (13, Value.bool false), (15, Value.tuple #[Value.agg #[Value.int .i64 0, Value.int .i64 0, Value.int .i64 0, Value.int .i64 0], Value.bool false]), (16, Value.pointer (some ⟨g, 0, none⟩)), (17, Value.pointer (some ⟨g, 0, none⟩)), (18, Value.pointer (some ⟨g, 1, none⟩)), (19, Value.map (some gm)), (20, Value.pointer (some ⟨g1, 0, none⟩)), (21, Value.int .i64 r.1), (22, Value.tuple #[Value.agg #[Value.int .i64 0, Value.int .i64 0, Value.int .i64 0, Value.int .i64 0], Value.bool false]), (23, Value.agg #[Value.int .i64 0, Value.int .i64 0, Value.int .i64 0, Value.int .i64 0]), (24, Value.bool false)] → W.heap[g]? = some (.cells #[Value.int .i64 32, Value.map (some gm)] 79 (0, 0)) → W.heap[gm]? = some (.map es ck) → W.heap[g1]? = some (.cells #[Value.int .i64 r.1, Value.int .i64 r.2.1, Value.int .i64 r.2.2.1, Value.int .i64 r.2.2.2] 59 (0, 0)) → W.heap[g6_10]? = some (.cells #[Value.int .i64 0, Value.int .i64 0, Value.int .i64 0, Value.int .i64 0] 59 (0, 0)) → g ≠ g6_10 → g1 ≠ g6_10 → g1 ≠ gm → g6_10 ≠ gm → w.heap.size ≤ g6_10 → Kp w W (fun k => k = gm) → wpAnyH Tryd.prog .any (regOf Tryd.f16 6) QQ (fun W => W.heap[g]? = some (.cells #[Value.int .i64 32, Value.map (some gm)] 79 (0, 0)) ∧ W.heap[gm]? = some (.map es ck) ∧ W.heap[g1]? = some (.cells #[Value.int .i64 r.1, Value.int .i64 r.2.1, Value.int .i64 r.2.2.1, Value.int .i64 r.2.2.2] 59 (0, 0)) ∧ True) 2 #[true, true, true, true, true, true, true, true, true, true, true, false, false] a W := by
    intro g6_10 w38 a hE B_g B_gm B_g1 B_g6_10 n_g_g6_10 n_g1_g6_10 n_g1_gm n_g6_10_gm z_0_g6_10 K_0
    refine d_all (rs := [11]) (by kernel_rfl) rfl ?_
    refine all_cons (d_lit (listed' := #[true, true, true, true, true, true, true, true, true, true, true, true, false]) rfl ?_) ?_
    ·
     refine (s_store (off := 0) (k := 4) (cs' := #[Value.int .i64 0, Value.int .i64 0, Value.int .i64 0, Value.int .i64 0]) p16_6_11 hE wn_none tS59 rfl rfl rfl rfl B_g6_10 (Nat.le_of_ble_eq_true rfl) rfl ?_)
     intro w39 B_g6_10' hk
     replace B_g := kp_blk B_g hk n_g_g6_10
     replace B_gm := kp_blk B_gm hk (Ne.symm n_g6_10_gm)
     replace B_g1 := kp_blk B_g1 hk n_g1_g6_10
     replace K_0 := K_0.then_ hk (fun k h => by rw [show k = g6_10 from h]; exact Or.inr z_0_g6_10)
     replace B_g6_10 := B_g6_10'
     clear hk
     refine ⟨⟨B_g, B_gm, B_g1, trivial⟩, ?_⟩
     refine Rv.dq (listed' := #[true, true, true, true, true, true, true, true, true, true, true, true, true]) (v := Value.bool false) p16_6_12 ns16_6 hE wn_none ⟨B_g, B_gm, B_g1, trivial⟩ (fun W hS => (st_assign rfl)) ?_ (fun c a w h => hQ c a _ _ w h); clear hE a; intro a hE
     exact dr6_4 g6_10 _ a (En.sub hE ⟨rfl, rfl, rfl, rfl, rfl, rfl, rfl, rfl, rfl, rfl, rfl, rfl, rfl, rfl, rfl, rfl, rfl, rfl, rfl, trivial⟩) B_g B_gm B_g1 B_g6_10 n_g_g6_10 n_g1_g6_10 n_g1_gm n_g6_10_gm z_0_g6_10 K_0
    exact all_nil
   have dr6_2 : ∀ (W : World) (a : Act), En 55 a [(0, Value.pointer (some ⟨g, 0, none⟩)), (1, Value.agg #[Value.int .i64 r.1, Value.int .i64 r.2.1, Value.int .i64 r.2.2.1, Value.int .i64 r.2.2.2]), (3, Value.pointer (some ⟨g1, 0, none⟩)), (4, Value.int .i64 0), (5, Value.int .i64 (bif okR r then 0 else 1)), (9, Value.bool false), (13, Value.bool false), (15, Value.tuple #[Value.agg #[Value.int .i64 0, Value.int .i64 0, Value.int .i64 0, Value.int .i64 0], Value.bool false]), (16, Value.pointer (some ⟨g, 0, none⟩)), (17, Value.pointer (some ⟨g, 0, none⟩)), (18, Value.pointer (some ⟨g, 1, none⟩)), (19, Value.map (some gm)), (20, Value.pointer (some ⟨g1, 0, none⟩)), (21, Value.int .i64 r.1), (22, Value.tuple #[Value.agg #[Value.int .i64 0, Value.int .i64 0, Value.int .i64 0, Value.int .i64 0], Value.bool false]), (23, Value.agg #[Value.int .i64 0, Value.int .i64 0, Value.int .i64 0, Value.int .i64 0]), (24, Value.bool false)] → W.heap[g]? = some (.cells #[Value.int .i64 32, Value.map (some gm)] 79 (0, 0)) → W.heap[gm]? = some (.map es ck) → W.heap[g1]? = some (.cells #[Value.int .i64 r.1, Value.int .i64 r.2.1, Value.int .i64 r.2.2.1, Value.int .i64 r.2.2.2] 59 (0, 0)) → g1 ≠ gm → Kp w W (fun k => k = gm) → wpAnyH Tryd.prog .any (regOf Tryd.f16 6) QQ (fun W => W.heap[g]? = some (.cells #[Value.int .i64 32, Value.map (some gm)] 79 (0, 0)) ∧ W.heap[gm]? = some (.map es ck) ∧ W.heap[g1]? = some (.cells #[Value.int .i64 r.1, Value.int .i64 r.2.1, Value.int .i64 r.2.2.1, Value.int .i64 r.2.2.2] 59 (0, 0)) ∧ True) 3 #[true, true, true, true, true, true, true, true, true, true, false, false, false] a W := by
    intro w40 a hE B_g B_gm B_g1 n_g1_gm K_0
    refine d_all (rs := [10]) (by kernel_rfl) rfl ?_
    refine all_cons (d_lit (listed' := #[true, true, true, true, true, true, true, true, true, true, true, false, false]) rfl ?_) ?_
    ·
     refine (s_alloc p16_6_10 hE wn_none rfl tZ59 ?_)
     clear hE a; intro g6_10 w41 z42 B_g6_10 hk a hE
     replace B_g6_10 : w41.heap[g6_10]? = some (.cells #[Value.int .i64 0, Value.int .i64 0, Value.int .i64 0, Value.int .i64 0] 59 (0, 0)) := B_g6_10
     have n_g_g6_10 : g ≠ g6_10 := ne_new B_g z42
     have n_gm_g6_10 : gm ≠ g6_10 := ne_new B_gm z42
     have n_g1_g6_10 : g1 ≠ g6_10 := ne_new B_g1 z42
     have z_0_g6_10 := Nat.le_trans K_0.kept.1 z42
     replace B_g := kp_blk B_g hk (fun h => h)
     replace B_gm := kp_blk B_gm hk (fun h => h)
     replace B_g1 := kp_blk B_g1 hk (fun h => h)
     replace K_0 := K_0.then_ hk (fun _ h => h.elim)
     clear hk
     refine ⟨⟨B_g, B_gm, B_g1, trivial⟩, ?_⟩
     have n_g6_10_gm := Ne.symm n_gm_g6_10
     exact dr6_3 g6_10 _ a (En.sub hE ⟨rfl, rfl, rfl, rfl, rfl, rfl, rfl, rfl, rfl, rfl, rfl, rfl, rfl, rfl, rfl, rfl, rfl, rfl, trivial⟩) B_g B_gm B_g1 B_g6_10 n_g_g6_10 n_g1_g6_10 n_g1_gm n_g6_10_gm z_0_g6_10 K_0
    exact all_nil
   have dr6_1 : ∀ (g6_10 : Nat) (W : World) (a : Act), En 55 a [(0, Value.pointer (some ⟨g, 0, none⟩)), (1, Value.agg #[Value.int .i64 r.1, Value.int .i64 r.2.1, Value.int .i64 r.2.2.1, Value.int .i64 r.2.2.2]), (3, Value.pointer (some ⟨g1, 0, none⟩)), (4, Value.int .i64 0), (5, Value.int .i64 (bif okR r then 0 else 1)), (6, Value.pointer (some ⟨g6_10, 0, none⟩)), (9, Value.bool false), (13, Value.bool false), (16, Value.pointer (some ⟨g, 0, none⟩)), (17, Value.pointer (some ⟨g, 0, none⟩)), (18, Value.pointer (some ⟨g, 1, none⟩)), (19, Value.map (some gm)), (20, Value.pointer (some ⟨g1, 0, none⟩)), (21, Value.int .i64 r.1)] → W.heap[g]? = some (.cells #[Value.int .i64 32, Value.map (some gm)] 79 (0, 0)) → W.heap[gm]? = some (.map es ck) → W.heap[g1]? = some (.cells #[Value.int .i64 r.1, Value.int .i64 r.2.1, Value.int .i64 r.2.2.1, Value.int .i64 r.2.2.2] 59 (0, 0)) → W.heap[g6_10]? = some (.cells #[Value.int .i64 0, Value.int .i64 0, Value.int .i64 0, Value.int .i64 0] 59 (0, 0)) → g ≠ g6_10 → g1 ≠ g6_10 → g1 ≠ gm → g6_10 ≠ gm → w.heap.size ≤ g6_10 → Kp w W (fun k => k = gm) → wpAnyH Tryd.prog .any (regOf Tryd.f16 6) QQ (fun W => W.heap[g]? = some (.cells #[Value.int .i64 32, Value.map (some gm)] 79 (0, 0)) ∧ W.heap[gm]? = some (.map es ck) ∧ W.heap[g1]? = some (.cells #[Value.int .i64 r.1, Value.int .i64 r.2.1, Value.int .i64 r.2.2.1, Value.int .i64 r.2.2.2] 59 (0, 0)) ∧ True) 6 #[true, true, true, true, true, true, false, false, false, false, true, false, false] a W := by
    intro g6_10 w43 a hE B_g B_gm B_g1 B_g6_10 n_g_g6_10 n_g1_g6_10 n_g1_gm n_g6_10_gm z_0_g6_10 K_0
    refine d_all (rs := [6]) (by kernel_rfl) rfl ?_
    refine all_cons (d_lit (listed' := #[true, true, true, true, true, true, true, false, false, false, true, false, false]) rfl ?_) ?_
    ·
     refine (s_still (v := Value.tuple #[Value.agg #[Value.int .i64 0, Value.int .i64 0, Value.int .i64 0, Value.int .i64 0], Value.bool false]) p16_6_6 hE wn_none rfl (Mi.st_look2 Tryd.underlying77 Tryd.underlying3 tZ59 rfl rfl hF B_gm (by rw [ho]; rfl) (by rw [ho]; rfl)) ?_); clear hE a; intro a hE
     refine ⟨⟨B_g, B_gm, B_g1, trivial⟩, ?_⟩
     refine Rv.dq (listed' := #[true, true, true, true, true, true, true, true, false, false, true, false, false]) (v := Value.tuple #[Value.agg #[Value.int .i64 0, Value.int .i64 0, Value.int .i64 0, Value.int .i64 0], Value.bool false]) p16_6_7 ns16_6 hE wn_none ⟨B_g, B_gm, B_g1, trivial⟩ (fun W hS => (st_move rfl)) ?_ (fun c a w h => hQ c a _ _ w h); clear hE a; intro a hE
     refine Rv.dq (listed' := #[true, true, true, true, true, true, true, true, true, false, true, false, false]) (v := Value.agg #[Value.int .i64 0, Value.int .i64 0, Value.int .i64 0, Value.int .i64 0]) p16_6_8 ns16_6 hE wn_none ⟨B_g, B_gm, B_g1, trivial⟩ (fun W hS => (st_extract rfl rfl)) ?_ (fun c a w h => hQ c a _ _ w h); clear hE a; intro a hE
     refine Rv.dq (listed' := #[true, true, true, true, true, true, true, true, true, true, true, false, false]) (v := Value.bool false) p16_6_9 ns16_6 hE wn_none ⟨B_g, B_gm, B_g1, trivial⟩ (fun W hS => (st_extract rfl rfl)) ?_ (fun c a w h => hQ c a _ _ w h); clear hE a; intro a hE
     exact dr6_3 g6_10 _ a (En.sub hE ⟨rfl, rfl, rfl, rfl, rfl, rfl, rfl, rfl, rfl, rfl, rfl, rfl, rfl, rfl, rfl, rfl, rfl, rfl, trivial⟩) B_g B_gm B_g1 B_g6_10 n_g_g6_10 n_g1_g6_10 n_g1_gm n_g6_10_gm z_0_g6_10 K_0
    exact all_nil
   have dr6_0 : ∀ (W : World) (a : Act), En 55 a [(0, Value.pointer (some ⟨g, 0, none⟩)), (1, Value.agg #[Value.int .i64 r.1, Value.int .i64 r.2.1, Value.int .i64 r.2.2.1, Value.int .i64 r.2.2.2]), (3, Value.pointer (some ⟨g1, 0, none⟩)), (4, Value.int .i64 0), (5, Value.int .i64 (bif okR r then 0 else 1)), (9, Value.bool false), (13, Value.bool false), (16, Value.pointer (some ⟨g, 0, none⟩)), (17, Value.pointer (some ⟨g, 0, none⟩)), (18, Value.pointer (some ⟨g, 1, none⟩)), (19, Value.map (some gm)), (20, Value.pointer (some ⟨g1, 0, none⟩)), (21, Value.int .i64 r.1)] → W.heap[g]? = some (.cells #[Value.int .i64 32, Value.map (some gm)] 79 (0, 0)) → W.heap[gm]? = some (.map es ck) → W.heap[g1]? = some (.cells #[Value.int .i64 r.1, Value.int .i64 r.2.1, Value.int .i64 r.2.2.1, Value.int .i64 r.2.2.2] 59 (0, 0)) → Kp w W (fun k => k = gm) → wpAnyH Tryd.prog .any (regOf Tryd.f16 6) QQ (fun W => W.heap[g]? = some (.cells #[Value.int .i64 32, Value.map (some gm)] 79 (0, 0)) ∧ W.heap[gm]? = some (.map es ck) ∧ W.heap[g1]? = some (.cells #[Value.int .i64 r.1, Value.int .i64 r.2.1, Value.int .i64 r.2.2.1, Value.int .i64 r.2.2.2] 59 (0, 0)) ∧ True) 7 #[true, true, true, true, true, true, false, false, false, false, false, false, false] a W := by
    intro w44 a hE B_g B_gm B_g1 K_0
    refine d_all (rs := [6, 10]) (by kernel_rfl) rfl ?_
    refine all_cons (d_lit (listed' := #[true, true, true, true, true, true, true, false, false, false, false, false, false]) rfl ?_) ?_
    ·
     refine (s_still (v := Value.tuple #[Value.agg #[Value.int .i64 0, Value.int .i64 0, Value.int .i64 0, Value.int .i64 0], Value.bool false]) p16_6_6 hE wn_none rfl (Mi.st_look2 Tryd.underlying77 Tryd.underlying3 tZ59 rfl rfl hF B_gm (by rw [ho]; rfl) (by rw [ho]; rfl)) ?_); clear hE a; intro a hE
     refine ⟨⟨B_g, B_gm, B_g1, trivial⟩, ?_⟩
     refine Rv.dq (listed' := #[true, true, true, true, true, true, true, true, false, false, false, false, false]) (v := Value.tuple #[Value.agg #[Value.int .i64 0, Value.int .i64 0, Value.int .i64 0, Value.int .i64 0], Value.bool false]) p16_6_7 ns16_6 hE wn_none ⟨B_g, B_gm, B_g1, trivial⟩ (fun W hS => (st_move rfl)) ?_ (fun c a w h => hQ c a _ _ w h); clear hE a; intro a hE
     refine Rv.dq (listed' := #[true, true, true, true, true, true, true, true, true, false, false, false, false]) (v := Value.agg #[Value.int .i64 0, Value.int .i64 0, Value.int .i64 0, Value.int .i64 0]) p16_6_8 ns16_6 hE wn_none ⟨B_g, B_gm, B_g1, trivial⟩ (fun W hS => (st_extract rfl rfl)) ?_ (fun c a w h => hQ c a _ _ w h); clear hE a; intro a hE
     refine Rv.dq (listed' := #[true, true, true, true, true, true, true, true, true, true, false, false, false]) (v := Value.bool false) p16_6_9 ns16_6 hE wn_none ⟨B_g, B_gm, B_g1, trivial⟩ (fun W hS => (st_extract rfl rfl)) ?_ (fun c a w h => hQ c a _ _ w h); clear hE a; intro a hE
     have n_g1_gm := Ne.symm n_gm_g1
     exact dr6_2 _ a (En.sub hE ⟨rfl, rfl, rfl, rfl, rfl, rfl, rfl, rfl, rfl, rfl, rfl, rfl, rfl, rfl, rfl, rfl, rfl, trivial⟩) B_g B_gm B_g1 n_g1_gm K_0
    refine all_cons (d_lit (listed' := #[true, true, true, true, true, true, false, false, false, false, true, false, false]) rfl ?_) ?_
    ·
     refine (s_alloc p16_6_10 hE wn_none rfl tZ59 ?_)
     clear hE a; intro g6_10 w45 z46 B_g6_10 hk a hE
     replace B_g6_10 : w45.heap[g6_10]? = some (.cells #[Value.int .i64 0, Value.int .i64 0, Value.int .i64 0, Value.int .i64 0] 59 (0, 0)) := B_g6_10
     have n_g_g6_10 : g ≠ g6_10 := ne_new B_g z46
     have n_gm_g6_10 : gm ≠ g6_10 := ne_new B_gm z46
     have n_g1_g6_10 : g1 ≠ g6_10 := ne_new B_g1 z46
     have z_0_g6_10 := Nat.le_trans K_0.kept.1 z46
     replace B_g := kp_blk B_g hk (fun h => h)
     replace B_gm := kp_blk B_gm hk (fun h => h)
     replace B_g1 := kp_blk B_g1 hk (fun h => h)
     replace K_0 := K_0.then_ hk (fun _ h => h.elim)
     clear hk
     refine ⟨⟨B_g, B_gm, B_g1, trivial⟩, ?_⟩
     have n_g1_gm := Ne.symm n_gm_g1
     have n_g6_10_gm := Ne.symm n_gm_g6_10
     exact dr6_1 g6_10 _ a (En.sub hE ⟨rfl, rfl, rfl, rfl, rfl, rfl, rfl, rfl, rfl, rfl, rfl, rfl, rfl, rfl, trivial⟩) B_g B_gm B_g1 B_g6_10 n_g_g6_10 n_g1_g6_10 n_g1_gm n_g6_10_gm z_0_g6_10 K_0
    exact all_nil
   intro w27 hh hk
   replace B_g := kp_blk B_g hk (fun h => h)
   replace B_gm := kp_blk B_gm hk (fun h => h)
   replace B_g1 := kp_blk B_g1 hk (fun h => h)
   replace K_0 := K_0.then_ hk (fun _ h => h.elim)
   clear hh hk
   refine Rv.dq (listed' := #[true, false, false, false, false, false, false, false, false, false, false, false, false]) (v := Value.pointer (some ⟨g, 0, none⟩)) p16_6_0 ns16_6 hE wn_none ⟨B_g, B_gm, B_g1, trivial⟩ (fun W hS => (st_move rfl)) ?_ (fun c a w h => hQ c a _ _ w h); clear hE a; intro a hE
   refine Rv.dq (listed' := #[true, true, false, false, false, false, false, false, false, false, false, false, false]) (v := Value.pointer (some ⟨g, 0, none⟩)) p16_6_1 ns16_6 hE wn_none ⟨B_g, B_gm, B_g1, trivial⟩ (fun W hS => (st_nil rfl)) ?_ (fun c a w h => hQ c a _ _ w h); clear hE a; intro a hE
   refine Rv.dq (listed' := #[true, true, true, false, false, false, false, false, false, false, false, false, false]) (v := Value.pointer (some ⟨g, 1, none⟩)) p16_6_2 ns16_6 hE wn_none ⟨B_g, B_gm, B_g1, trivial⟩ (fun W hS => (st_fieldAddr Tryd.underlying79 rfl tS77 rfl rfl)) ?_ (fun c a w h => hQ c a _ _ w h); clear hE a; intro a hE
   refine Rv.dq (listed' := #[true, true, true, true, false, false, false, false, false, false, false, false, false]) (v := Value.map (some gm)) p16_6_3 ns16_6 hE wn_none ⟨B_g, B_gm, B_g1, trivial⟩ (fun W hS => (st_load1 tA77 rfl ((blk_cell hS.1 1).trans rfl))) ?_ (fun c a w h => hQ c a _ _ w h); clear hE a; intro a hE
   refine Rv.dq (listed' := #[true, true, true, true, true, false, false, false, false, false, false, false, false]) (v := Value.pointer (some ⟨g1, 0, none⟩)) p16_6_4 ns16_6 hE wn_none ⟨B_g, B_gm, B_g1, trivial⟩ (fun W hS => (st_fieldAddr Tryd.underlying59 rfl tS3 rfl rfl)) ?_ (fun c a w h => hQ c a _ _ w h); clear hE a; intro a hE
   refine Rv.dq (listed' := #[true, true, true, true, true, true, false, false, false, false, false, false, false]) (v := Value.int .i64 r.1) p16_6_5 ns16_6 hE wn_none ⟨B_g, B_gm, B_g1, trivial⟩ (fun W hS => (st_load1 tA3 rfl ((blk_cell hS.2.2.1 0).trans rfl))) ?_ (fun c a w h => hQ c a _ _ w h); clear hE a; intro a hE
   have n_g1_gm := Ne.symm n_gm_g1
   exact dr6_0 _ a (En.sub hE ⟨rfl, rfl, rfl, rfl, rfl, rfl, rfl, rfl, rfl, rfl, rfl, rfl, rfl, trivial⟩) B_g B_gm B_g1 K_0
 ·
  have hr9 : okR r = false := by simpa using hr
  refine c_reg R16_3_l ?_
  refine q0 (pl P16_3 0) hE (st_loadN (off := 0) (k := 4) (vs := [Value.int .i64 r.1, Value.int .i64 r.2.1, Value.int .i64 r.2.2.1, Value.int .i64 r.2.2.2]) tA59 tS59 rfl B_g1 rfl rfl) ?_; clear hE a; intro a hE
  refine p_cons (s_call (xs := [Operand.tmp 10]) (args := [Value.agg #[Value.int .i64 r.1, Value.int .i64 r.2.1, Value.int .i64 r.2.2.1, Value.int .i64 r.2.2.2]]) (pl P16_3 1) hE wn_none rfl rfl Tryd.func28 cl28 (tcheck r _) ?_)
  rintro e w47 ⟨rfl, hk⟩
  replace B_g := kp_blk B_g hk (fun h => h)
  replace B_gm := kp_blk B_gm hk (fun h => h)
  replace B_g1 := kp_blk B_g1 hk (fun h => h)
  replace K_0 := K_0.then_ hk (fun _ h => h.elim)
  refine ⟨_, rfl, ?_⟩; clear hE a; intro a hE
  refine q0 (pl P16_3 2) hE (st_assign rfl) ?_; clear hE a; intro a hE
  refine p_nil (x_norm (c_reg R16_4_l ?_))
  refine qn hE (rc (pl P16_4 0) (st_move rfl) (rc (pl P16_4 1) (st_neq (b := true) rfl rfl (by rw [hr9]; rfl)) rn)) ?_; clear hE a; intro a hE
  refine p_nil (x_norm ?_)
  refine c_cond (t := true) hE rfl ?_
  refine c_reg R16_5_l ?_
  refine qn hE (rc (pl P16_5 0) (st_move rfl) (rc (pl P16_5 1) (st_assign rfl) rn)) ?_; clear hE a; intro a hE
  refine p_nil (x_norm (wp_ret (x_ret ?_)))
  refine ret_one (v := Value.int .i64 (bif okR r then 0 else 1)) rfl hE (.tmp rfl .nil) ?_
  have e8 : learnE l r = 1 := by unfold learnE; rw [if_neg hr]
  have e9 : learnL l r = l := by unfold learnL; rw [if_neg hr]
  exact ⟨es, ck, by rw [e8, hr9]; rfl, by rw [e9]; exact hF, B_gm, K_0⟩
end Go.Proofs.YtnmlckaeheiodaaDoor.Ra
