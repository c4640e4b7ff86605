/- law21.To: a view, and the document's, with what both tables learned. -/
import Derived.Test.YtnmlckaeheiodaaDoorRtg
set_option maxRecDepth 100000
set_option linter.unusedVariables false
set_option linter.unusedSimpArgs false
namespace Go.Proofs.YtnmlckaeheiodaaDoor.Rt
open Go.RowKit Go.Proofs.YtnmlckaeheiodaaDoorW.PrintWords Go.Proofs.YtnmlckaeheiodaaDoor.Ds Go.Proofs.YtnmlckaeheiodaaDoor.Lol Go.Proofs.YtnmlckaeheiodaaDoor.Ra Go.Proofs.YtnmlckaeheiodaaDoor.Rd19 Go.Proofs.YtnmlckaeheiodaaDoor.Rg
open Go.Proofs.YtnmlckaeheiodaaDoor.Pk (Kp)
open Go.Proofs.YtnmlckaeheiodaaDoor.Mi (st_eqlP x_retS MapI getI putI)
abbrev dR := (Kd.pair (Kd.int .i64) (Kd.pair (Kd.int .i64) (Kd.pair (Kd.int .i64) (Kd.int .i64))))
abbrev zR : R4 := (0, 0, 0, 0)
theorem r_open {w : World} {o : R4} {l : List Value} (h : Kd.K dR w o l) : l = [.int .i64 o.1, .int .i64 o.2.1, .int .i64 o.2.2.1, .int .i64 o.2.2.2] := by
 obtain ⟨c0, d0, rfl, h0, c1, d1, rfl, h1, c2, d2, rfl, h2, h3⟩ := h
 subst h0; subst h1; subst h2
 rw [show d2 = [Value.int .i64 o.2.2.2] from h3]
 rfl
theorem R17_0_l : List.range (regOf Tryd.f17 0).size = [0, 1] := by kernel_rfl
theorem R17_1_l : List.range (regOf Tryd.f17 1).size = [0, 1, 2, 3, 4, 5, 6, 7, 8, 9] := by kernel_rfl
theorem body17 : Tryd.f17.body = some (.seq (.region 0 (regOf Tryd.f17 0) false) (.seq (.region 1 (regOf Tryd.f17 1) false) (.ret))) := by kernel_rfl
theorem P17_0 : (List.range (regOf Tryd.f17 0).size).map (pj (regOf Tryd.f17 0)) = [some (some 1, .box 61 (.tmp 0), 0, none), some (some 2, .alloc 59, 0, none)] := by kernel_rfl
theorem tZ59 : (Tryd.prog.info? 59).bind (·.zero) = some (Value.agg #[Value.int .i64 0, Value.int .i64 0, Value.int .i64 0, Value.int .i64 0]) := by kernel_rfl
theorem P17_1 : (List.range (regOf Tryd.f17 1).size).map (pj (regOf Tryd.f17 1)) = [some (some 3, .fieldAddr 61 (.tmp 1) 0, 0, none), some (some 4, .load 3 (.tmp 3), 3, none), some (some 5, .fieldAddr 61 (.tmp 1) 1, 0, none), some (some 6, .load 3 (.tmp 5), 3, none), some (some 7, .fieldAddr 61 (.tmp 1) 2, 0, none), some (some 8, .load 3 (.tmp 7), 3, none), some (some 9, .fieldAddr 61 (.tmp 1) 3, 0, none), some (some 10, .load 3 (.tmp 9), 3, none), some (some 11, .build 59 #[(0, .tmp 4), (1, .tmp 6), (2, .tmp 8), (3, .tmp 10)], 59, none), some (none, .store 59 (.tmp 2) (.tmp 11), 0, none)] := by kernel_rfl
theorem tS3 : (Tryd.prog.info? 3).map (·.size) = some 1 := by kernel_rfl
theorem tA3 : (Tryd.prog.underlying 3).map aggD = some false := by kernel_rfl
theorem tS59 : (Tryd.prog.info? 59).map (·.size) = some 4 := by kernel_rfl
theorem tA59 : (Tryd.prog.underlying 59).map aggD = some true := by kernel_rfl
set_option maxHeartbeats 4000000 in
theorem to19 (r : R4) (w : World) : Calls Tryd.prog 17 #[.agg #[.int .i64 r.1, .int .i64 r.2.1, .int .i64 r.2.2.1, .int .i64 r.2.2.2]] w fun e w' => e = .returned (.agg #[.int .i64 r.1, .int .i64 r.2.1, .int .i64 r.2.2.1, .int .i64 r.2.2.2]) ∧ Kp w w' (fun _ => False) := by
 have K_0 := Kp.refl w (fun _ => False)
 refine enter (args := [Value.agg #[Value.int .i64 r.1, Value.int .i64 r.2.1, Value.int .i64 r.2.2.1, Value.int .i64 r.2.2.2]]) (n := 12) Tryd.func17 body17 rfl rfl rfl ?_
 intro a hE
 refine c_reg R17_0_l ?_
 refine p_cons (s_box (pl P17_0 0) hE wn_none rfl rfl ?_)
 clear hE a; intro g1 w2 z3 B_g1 hk a hE
 replace B_g1 : w2.heap[g1]? = some (.cells #[Value.int .i64 r.1, Value.int .i64 r.2.1, Value.int .i64 r.2.2.1, Value.int .i64 r.2.2.2] 61 (0, 0)) := B_g1
 have z_0_g1 := Nat.le_trans K_0.kept.1 z3
 replace K_0 := K_0.then_ hk (fun _ h => h.elim)
 clear hk
 refine p_cons (s_alloc (pl P17_0 1) hE wn_none rfl tZ59 ?_)
 clear hE a; intro g4 w5 z6 B_g4 hk a hE
 replace B_g4 : w5.heap[g4]? = some (.cells #[Value.int .i64 0, Value.int .i64 0, Value.int .i64 0, Value.int .i64 0] 59 (0, 0)) := B_g4
 have n_g1_g4 : g1 ≠ g4 := ne_new B_g1 z6
 have z_0_g4 := Nat.le_trans K_0.kept.1 z6
 replace B_g1 := kp_blk B_g1 hk (fun h => h)
 replace K_0 := K_0.then_ hk (fun _ h => h.elim)
 clear hk
 refine p_nil (x_norm (c_reg R17_1_l ?_))
 refine qn hE (rc (pl P17_1 0) (st_fieldAddr Tryd.underlying61 rfl tS3 rfl rfl) (rc (pl P17_1 1) (st_load1 tA3 rfl ((blk_cell B_g1 0).trans rfl)) (rc (pl P17_1 2) (st_fieldAddr Tryd.underlying61 rfl tS3 rfl rfl) (rc (pl P17_1 3) (st_load1 tA3 rfl ((blk_cell B_g1 1).trans rfl)) (rc (pl P17_1 4) (st_fieldAddr Tryd.underlying61 rfl tS3 rfl rfl) (rc (pl P17_1 5) (st_load1 tA3 rfl ((blk_cell B_g1 2).trans rfl)) (rc (pl P17_1 6) (st_fieldAddr Tryd.underlying61 rfl tS3 rfl rfl) (rc (pl P17_1 7) (st_load1 tA3 rfl ((blk_cell B_g1 3).trans rfl)) (rc (pl P17_1 8) (st_build (xs := [(0, Operand.tmp 4), (1, Operand.tmp 6), (2, Operand.tmp 8), (3, Operand.tmp 10)]) (vs := [(0, Value.int .i64 r.1), (1, Value.int .i64 r.2.1), (2, Value.int .i64 r.2.2.1), (3, Value.int .i64 r.2.2.2)]) (cs := #[Value.int .i64 r.1, Value.int .i64 r.2.1, Value.int .i64 r.2.2.1, Value.int .i64 r.2.2.2]) rfl (by kernel_rfl)) rn))))))))) ?_; clear hE a; intro a hE
 refine p_cons (s_store (off := 0) (k := 4) (cs' := #[Value.int .i64 r.1, Value.int .i64 r.2.1, Value.int .i64 r.2.2.1, Value.int .i64 r.2.2.2]) (pl P17_1 9) hE wn_none tS59 rfl rfl rfl rfl B_g4 (Nat.le_of_ble_eq_true rfl) rfl ?_)
 intro w7 B_g4' hk
 replace B_g1 := kp_blk B_g1 hk n_g1_g4
 replace K_0 := K_0.then_ hk (fun k h => by rw [show k = g4 from h]; exact Or.inr z_0_g4)
 replace B_g4 := B_g4'
 clear hk
 refine p_nil (x_norm (wp_ret ?_))
 refine ret_one (v := Value.agg #[Value.int .i64 r.1, Value.int .i64 r.2.1, Value.int .i64 r.2.2.1, Value.int .i64 r.2.2.2]) rfl hE (.cellN (us := [Value.int .i64 r.1, Value.int .i64 r.2.1, Value.int .i64 r.2.2.1, Value.int .i64 r.2.2.2]) tA59 tS59 rfl B_g4 rfl .nil) ?_
 exact ⟨rfl, K_0⟩
theorem R5_0_l : List.range (regOf Tryd.f5 0).size = [0, 1, 2] := by kernel_rfl
theorem R5_1_l : List.range (regOf Tryd.f5 1).size = [0, 1, 2, 3, 4, 5] := by kernel_rfl
theorem R5_2_l : List.range (regOf Tryd.f5 2).size = [0, 1, 2] := by kernel_rfl
theorem R5_3_l : List.range (regOf Tryd.f5 3).size = [0] := by kernel_rfl
theorem R5_4_l : List.range (regOf Tryd.f5 4).size = [0, 1, 2, 3, 4, 5, 6, 7, 8] := by kernel_rfl
theorem R5_6_l : List.range (regOf Tryd.f5 6).size = [0, 1, 2, 3, 4, 5, 6, 7] := by kernel_rfl
theorem R5_7_l : List.range (regOf Tryd.f5 7).size = [0, 1, 2, 3, 4, 5, 6] := by kernel_rfl
theorem R5_5_l : List.range (regOf Tryd.f5 5).size = [0, 1, 2] := by kernel_rfl
theorem R5_8_l : List.range (regOf Tryd.f5 8).size = [0, 1, 2, 3, 4, 5] := by kernel_rfl
theorem body5 : Tryd.f5.body = some (.seq (.region 0 (regOf Tryd.f5 0) false) (.seq (.region 1 (regOf Tryd.f5 1) false) (.seq (.region 2 (regOf Tryd.f5 2) false) (.seq (.seq (.region 3 (regOf Tryd.f5 3) false) (.block 0 (.loop (.seq (.seq (.region 4 (regOf Tryd.f5 4) false) (.cond (Operand.tmp 22) (.skip) (.exit 0))) (.seq (.block 1 (.seq (.region 6 (regOf Tryd.f5 6) false) (.region 7 (regOf Tryd.f5 7) false))) (.region 5 (regOf Tryd.f5 5) false)))))) (.seq (.region 8 (regOf Tryd.f5 8) false) (.seq (.region 9 (regOf Tryd.f5 9) true) (.ret))))))) := by kernel_rfl
theorem P5_0 : (List.range (regOf Tryd.f5 0).size).map (pj (regOf Tryd.f5 0)) = [some (some 1, .box 24 (.tmp 0), 0, none), some (some 2, .alloc 27, 0, none), some (some 3, .alloc 24, 0, none)] := by kernel_rfl
theorem tZ27 : (Tryd.prog.info? 27).bind (·.zero) = some (Value.agg #[Value.int .i64 0, Value.int .i64 0, Value.bool false, Value.pointer none]) := by kernel_rfl
theorem tZ24 : (Tryd.prog.info? 24).bind (·.zero) = some (Value.agg #[Value.int .i64 0, Value.int .i64 0, Value.bool false, Value.slice none 0 0]) := by kernel_rfl
theorem P5_1 : (List.range (regOf Tryd.f5 1).size).map (pj (regOf Tryd.f5 1)) = [some (some 9, .call { callee := .value (.func 15), args := #[.const (.int .i64 32)], argTypes := #[3] }, 52, none), some (some 8, .move (.tmp 9), 52, none), some (some 10, .extract (.tmp 8) 0, 25, none), some (some 11, .extract (.tmp 8) 1, 32, none), some (some 4, .assign (.tmp 10), 25, none), some (some 5, .assign (.tmp 11), 32, none)] := by kernel_rfl
theorem cl15 : callable Tryd.f15 = true := by kernel_rfl
theorem P5_2 : (List.range (regOf Tryd.f5 2).size).map (pj (regOf Tryd.f5 2)) = [some (some 12, .build 56 #[(0, .const (.int .i64 32))], 56, none), some (some 13, .box 56 (.tmp 12), 54, none), some (some 6, .assign (.tmp 13), 54, none)] := by kernel_rfl
theorem p5_3_0 : pj (regOf Tryd.f5 3) 0 = some (some 7, .assign (.const (.int .i64 0)), 3, none) := by kernel_rfl
theorem P5_4 : (List.range (regOf Tryd.f5 4).size).map (pj (regOf Tryd.f5 4)) = [some (some 14, .move (.tmp 7), 3, none), some (some 15, .fieldAddr 24 (.tmp 1) 3, 0, none), some (some 16, .load 22 (.tmp 15), 22, none), some (some 17, .call { callee := .builtin .len, args := #[.tmp 16], argTypes := #[22] }, 3, none), some (some 18, .binOp .lss 3 (.tmp 14) (.tmp 17) 3, 4, none), some (some 19, .move (.tmp 18), 4, none), some (some 20, .move (.tmp 7), 3, some (5, true)), some (some 21, .binOp .lss 3 (.tmp 20) (.const (.int .i64 10)) 3, 4, some (5, true)), some (some 22, .pick (.tmp 19) (.tmp 21) (.const (.bool false)), 4, none)] := by kernel_rfl
theorem tS22 : (Tryd.prog.info? 22).map (·.size) = some 1 := by kernel_rfl
theorem tA22 : (Tryd.prog.underlying 22).map aggD = some false := by kernel_rfl
theorem g5_4_5 : dstOf (regOf Tryd.f5 4) 5 = some 19 := by kernel_rfl
theorem P5_6 : (List.range (regOf Tryd.f5 6).size).map (pj (regOf Tryd.f5 6)) = [some (some 25, .move (.tmp 4), 25, none), some (some 26, .fieldAddr 24 (.tmp 1) 3, 0, none), some (some 27, .load 22 (.tmp 26), 22, none), some (some 28, .move (.tmp 7), 3, none), some (some 29, .indexAddr 22 (.tmp 27) (.tmp 28), 0, none), some (some 30, .load 61 (.tmp 29), 61, none), some (some 31, .call { callee := .value (.func 17), args := #[.tmp 30], argTypes := #[61] }, 59, none), some (some 32, .call { callee := .value (.func 16), args := #[.tmp 25, .tmp 31], argTypes := #[25, 59] }, 32, none)] := by kernel_rfl
theorem tS61 : (Tryd.prog.info? 61).map (·.size) = some 4 := by kernel_rfl
theorem tA61 : (Tryd.prog.underlying 61).map aggD = some true := by kernel_rfl
theorem cl17 : callable Tryd.f17 = true := by kernel_rfl
theorem cl16 : callable Tryd.f16 = true := by kernel_rfl
theorem P5_7 : (List.range (regOf Tryd.f5 7).size).map (pj (regOf Tryd.f5 7)) = [some (some 33, .move (.tmp 6), 54, none), some (some 34, .fieldAddr 24 (.tmp 1) 3, 0, none), some (some 35, .load 22 (.tmp 34), 22, none), some (some 36, .move (.tmp 7), 3, none), some (some 37, .indexAddr 22 (.tmp 35) (.tmp 36), 0, none), some (some 38, .load 61 (.tmp 37), 61, none), some (some 39, .call { callee := .value (.func 18), args := #[.tmp 33, .tmp 38], argTypes := #[54, 61] }, 3, none)] := by kernel_rfl
theorem cl18 : callable Tryd.f18 = true := by kernel_rfl
theorem P5_5 : (List.range (regOf Tryd.f5 5).size).map (pj (regOf Tryd.f5 5)) = [some (some 23, .move (.tmp 7), 3, none), some (some 24, .binOp .add 3 (.tmp 23) (.const (.int .i64 1)) 3, 3, none), some (some 7, .assign (.tmp 24), 3, none)] := by kernel_rfl
theorem P5_8 : (List.range (regOf Tryd.f5 8).size).map (pj (regOf Tryd.f5 8)) = [some (some 40, .move (.tmp 6), 54, none), some (some 41, .nilCheck (.tmp 40), 0, none), some (some 42, .fieldAddr 56 (.tmp 41) 1, 0, none), some (some 43, .load 22 (.tmp 42), 22, none), some (some 44, .fieldAddr 24 (.tmp 1) 3, 0, none), some (none, .store 22 (.tmp 44) (.tmp 43), 0, none)] := by kernel_rfl
theorem ns5_9 : Region.noSelect (regOf Tryd.f5 9) = true := by kernel_rfl
theorem p5_9_0 : pj (regOf Tryd.f5 9) 0 = some (some 45, .fieldAddr 24 (.tmp 1) 0, 0, none) := by kernel_rfl
theorem p5_9_1 : pj (regOf Tryd.f5 9) 1 = some (some 46, .load 3 (.tmp 45), 3, none) := by kernel_rfl
theorem p5_9_2 : pj (regOf Tryd.f5 9) 2 = some (some 47, .fieldAddr 24 (.tmp 1) 1, 0, none) := by kernel_rfl
theorem p5_9_3 : pj (regOf Tryd.f5 9) 3 = some (some 48, .load 3 (.tmp 47), 3, none) := by kernel_rfl
theorem p5_9_4 : pj (regOf Tryd.f5 9) 4 = some (some 49, .fieldAddr 24 (.tmp 1) 2, 0, none) := by kernel_rfl
theorem tS4 : (Tryd.prog.info? 4).map (·.size) = some 1 := by kernel_rfl
theorem p5_9_5 : pj (regOf Tryd.f5 9) 5 = some (some 50, .load 4 (.tmp 49), 4, none) := by kernel_rfl
theorem tA4 : (Tryd.prog.underlying 4).map aggD = some false := by kernel_rfl
theorem p5_9_6 : pj (regOf Tryd.f5 9) 6 = some (some 51, .move (.tmp 4), 25, none) := by kernel_rfl
theorem p5_9_7 : pj (regOf Tryd.f5 9) 7 = some (some 52, .build 27 #[(0, .tmp 46), (1, .tmp 48), (2, .tmp 50), (3, .tmp 51)], 27, none) := by kernel_rfl
theorem p5_9_8 : pj (regOf Tryd.f5 9) 8 = some (some 53, .load 24 (.tmp 1), 24, none) := by kernel_rfl
theorem tA24 : (Tryd.prog.underlying 24).map aggD = some true := by kernel_rfl
theorem tS24 : (Tryd.prog.info? 24).map (·.size) = some 4 := by kernel_rfl
theorem p5_9_9 : pj (regOf Tryd.f5 9) 9 = some (none, .store 27 (.tmp 2) (.tmp 52), 0, none) := by kernel_rfl
theorem tS27 : (Tryd.prog.info? 27).map (·.size) = some 4 := by kernel_rfl
theorem p5_9_10 : pj (regOf Tryd.f5 9) 10 = some (none, .store 24 (.tmp 3) (.tmp 53), 0, none) := by kernel_rfl
theorem tA27 : (Tryd.prog.underlying 27).map aggD = some true := by kernel_rfl
set_option maxHeartbeats 4000000 in
theorem to_any (nd pf : Int) (rt : Bool) (A : Option Addr) (c : Nat) (ls : List R4) (hlm : ls.length ≤ 9223372036854775807) (w : World) (hFA : ∀ W', Kp w W' (fun _ => False) → Kd.C dR W' A ls.length ls) : Calls Tryd.prog 5 #[.agg #[.int .i64 nd, .int .i64 pf, .bool rt, .slice A ls.length c]] w fun e w' => ∃ g gm ck es A' c', e = .returned (.tuple #[.agg #[.int .i64 nd, .int .i64 pf, .bool rt, .pointer (some ⟨g, 0, none⟩)], .agg #[.int .i64 nd, .int .i64 pf, .bool rt, .slice A' (allR ls).length c']]) ∧ w.heap.size ≤ g ∧ w.heap.size ≤ gm ∧ g ≠ gm ∧ w'.heap[g]? = some (.cells #[.int .i64 32, .map (some gm)] 79 (0, 0)) ∧ w'.heap[gm]? = some (.map es ck) ∧ MapI encR es ck (allL ls) ∧ Rv.RdV w' A' (allR ls).length 4 (flR (allR ls)) ∧ (allR ls).length ≤ 10 ∧ True ∧ Kp w w' (fun _ => False) := by
 have K_0 := Kp.refl w (fun _ => False)
 refine enter (args := [Value.agg #[Value.int .i64 nd, Value.int .i64 pf, Value.bool rt, Value.slice A ls.length c]]) (n := 54) Tryd.func5 body5 rfl rfl rfl ?_
 intro a hE
 refine c_reg R5_0_l ?_
 refine p_cons (s_box (pl P5_0 0) hE wn_none rfl rfl ?_)
 clear hE a; intro g1 w2 z3 B_g1 hk a hE
 replace B_g1 : w2.heap[g1]? = some (.cells #[Value.int .i64 nd, Value.int .i64 pf, Value.bool rt, Value.slice A ls.length c] 24 (0, 0)) := B_g1
 have z_0_g1 := Nat.le_trans K_0.kept.1 z3
 replace K_0 := K_0.then_ hk (fun _ h => h.elim)
 clear hk
 refine p_cons (s_alloc (pl P5_0 1) hE wn_none rfl tZ27 ?_)
 clear hE a; intro g4 w5 z6 B_g4 hk a hE
 replace B_g4 : w5.heap[g4]? = some (.cells #[Value.int .i64 0, Value.int .i64 0, Value.bool false, Value.pointer none] 27 (0, 0)) := B_g4
 have n_g1_g4 : g1 ≠ g4 := ne_new B_g1 z6
 have z_0_g4 := Nat.le_trans K_0.kept.1 z6
 replace B_g1 := kp_blk B_g1 hk (fun h => h)
 replace K_0 := K_0.then_ hk (fun _ h => h.elim)
 clear hk
 refine p_cons (s_alloc (pl P5_0 2) hE wn_none rfl tZ24 ?_)
 clear hE a; intro g7 w8 z9 B_g7 hk a hE
 replace B_g7 : w8.heap[g7]? = some (.cells #[Value.int .i64 0, Value.int .i64 0, Value.bool false, Value.slice none 0 0] 24 (0, 0)) := B_g7
 have n_g1_g7 : g1 ≠ g7 := ne_new B_g1 z9
 have n_g4_g7 : g4 ≠ g7 := ne_new B_g4 z9
 have z_0_g7 := Nat.le_trans K_0.kept.1 z9
 replace B_g1 := kp_blk B_g1 hk (fun h => h)
 replace B_g4 := kp_blk B_g4 hk (fun h => h)
 replace K_0 := K_0.then_ hk (fun _ h => h.elim)
 clear hk
 refine p_nil (x_norm (c_reg R5_1_l ?_))
 refine p_cons (s_call (xs := [Operand.const (Value.int IntKind.i64 32)]) (args := [Value.int .i64 32]) (pl P5_1 0) hE wn_none rfl rfl Tryd.func15 cl15 (tnew _) ?_)
 rintro e w14 ⟨g10, g11, rfl, z12, z13, n_g10_g11, B_g10, B_g11, hk⟩
 have n_g1_g10 : g1 ≠ g10 := ne_new B_g1 z12
 have n_g4_g10 : g4 ≠ g10 := ne_new B_g4 z12
 have n_g7_g10 : g7 ≠ g10 := ne_new B_g7 z12
 have z_0_g10 := Nat.le_trans K_0.kept.1 z12
 have n_g1_g11 : g1 ≠ g11 := ne_new B_g1 z13
 have n_g4_g11 : g4 ≠ g11 := ne_new B_g4 z13
 have n_g7_g11 : g7 ≠ g11 := ne_new B_g7 z13
 have z_0_g11 := Nat.le_trans K_0.kept.1 z13
 replace B_g1 := kp_blk B_g1 hk (fun h => h)
 replace B_g4 := kp_blk B_g4 hk (fun h => h)
 replace B_g7 := kp_blk B_g7 hk (fun h => h)
 replace K_0 := K_0.then_ hk (fun _ h => h.elim)
 refine ⟨_, rfl, ?_⟩; clear hE a; intro a hE
 refine qn hE (rc (pl P5_1 1) (st_move rfl) (rc (pl P5_1 2) (st_extract rfl rfl) (rc (pl P5_1 3) (st_extract rfl rfl) (rc (pl P5_1 4) (st_assign rfl) (rc (pl P5_1 5) (st_assign rfl) rn))))) ?_; clear hE a; intro a hE
 refine p_nil (x_norm (c_reg R5_2_l ?_))
 refine q0 (pl P5_2 0) hE (st_build (xs := [(0, Operand.const (Value.int IntKind.i64 32))]) (vs := [(0, Value.int .i64 32)]) (cs := #[Value.int .i64 32, Value.slice none 0 0]) rfl (by kernel_rfl)) ?_; clear hE a; intro a hE
 refine p_cons (s_box (pl P5_2 1) hE wn_none rfl rfl ?_)
 clear hE a; intro g15 w16 z17 B_g15 hk a hE
 replace B_g15 : w16.heap[g15]? = some (.cells #[Value.int .i64 32, Value.slice none 0 0] 56 (0, 0)) := B_g15
 have n_g1_g15 : g1 ≠ g15 := ne_new B_g1 z17
 have n_g4_g15 : g4 ≠ g15 := ne_new B_g4 z17
 have n_g7_g15 : g7 ≠ g15 := ne_new B_g7 z17
 have n_g10_g15 : g10 ≠ g15 := ne_new B_g10 z17
 have n_g11_g15 : g11 ≠ g15 := ne_new B_g11 z17
 have z_0_g15 := Nat.le_trans K_0.kept.1 z17
 replace B_g1 := kp_blk B_g1 hk (fun h => h)
 replace B_g4 := kp_blk B_g4 hk (fun h => h)
 replace B_g7 := kp_blk B_g7 hk (fun h => h)
 replace B_g10 := kp_blk B_g10 hk (fun h => h)
 replace B_g11 := kp_blk B_g11 hk (fun h => h)
 replace K_0 := K_0.then_ hk (fun _ h => h.elim)
 clear hk
 refine q0 (pl P5_2 2) hE (st_assign rfl) ?_; clear hE a; intro a hE
 refine p_nil (x_norm (wp_seq (c_reg R5_3_l ?_)))
 refine q0 p5_3_0 hE (st_assign rfl) ?_; clear hE a; intro a hE
 refine p_nil (x_norm (wp_block ?_))
 have O_D : Rv.RdV w16 none 0 4 (flR []) := Rv.rdv_nil _ 4
 have hc_D : (([] : List R4).length ≤ 0 ∧ ((none : Option Addr) = none → 0 = 0)) := ⟨Nat.le_refl _, fun _ => rfl⟩
 have Nb_D_g1 : ¬ OB none g1 := ob_nil
 have Nb_D_g4 : ¬ OB none g4 := ob_nil
 have Nb_D_g7 : ¬ OB none g7 := ob_nil
 have Nb_D_g10 : ¬ OB none g10 := ob_nil
 have Nb_D_g11 : ¬ OB none g11 := ob_nil
 have Nb_D_g15 : ¬ OB none g15 := ob_nil
 refine c_loop (α := Nat) (fun i a W => ∃ (A_D : Option Addr) (c_D : Nat) (n_D : Nat), ∃ (es9 : Array MapEntry), ∃ (ck9 : Nat), ∃ (l9 : List (Int × R4)), ∃ (L9 : List R4), En 54 a [(0, Value.agg #[Value.int .i64 nd, Value.int .i64 pf, Value.bool rt, Value.slice A ls.length c]), (1, Value.pointer (some ⟨g1, 0, none⟩)), (2, Value.pointer (some ⟨g4, 0, none⟩)), (3, Value.pointer (some ⟨g7, 0, none⟩)), (4, Value.pointer (some ⟨g10, 0, none⟩)), (6, Value.pointer (some ⟨g15, 0, none⟩)), (7, Value.int .i64 (i : Int))] ∧ MapI encR es9 ck9 l9 ∧ Rel l9 L9 ∧ n_D = L9.length ∧ (L9.length ≤ c_D ∧ (A_D = none → c_D = 0)) ∧ (i ≤ ls.length ∧ i ≤ 10) ∧ L9.length ≤ i ∧ l9 = (ls.take i).foldl learnL [] ∧ L9 = (ls.take i).foldl learnR [] ∧ W.heap[g1]? = some (.cells #[Value.int .i64 nd, Value.int .i64 pf, Value.bool rt, Value.slice A ls.length c] 24 (0, 0)) ∧ W.heap[g4]? = some (.cells #[Value.int .i64 0, Value.int .i64 0, Value.bool false, Value.pointer none] 27 (0, 0)) ∧ W.heap[g7]? = some (.cells #[Value.int .i64 0, Value.int .i64 0, Value.bool false, Value.slice none 0 0] 24 (0, 0)) ∧ W.heap[g10]? = some (.cells #[Value.int .i64 32, Value.map (some g11)] 79 (0, 0)) ∧ W.heap[g11]? = some (.map es9 ck9) ∧ W.heap[g15]? = some (.cells #[Value.int .i64 32, Value.slice A_D n_D c_D] 56 (0, 0)) ∧ Rv.RdV W A_D n_D 4 (flR L9) ∧ ¬ OB A_D g1 ∧ ¬ OB A_D g4 ∧ ¬ OB A_D g7 ∧ ¬ OB A_D g10 ∧ ¬ OB A_D g11 ∧ ¬ OB A_D g15 ∧ Kp w W (fun _ => False)) (fun i => ls.length - i) (0) ?_ ?_
 ·
  exact ⟨none, 0, 0, #[], 0, [], [], En.sub hE ⟨rfl, rfl, rfl, rfl, rfl, rfl, rfl, trivial⟩, (Mi.mapi_nil encR 0), rel_nil, rfl, hc_D, ⟨Nat.zero_le _, Nat.zero_le _⟩, Nat.le_refl _, rfl, rfl, B_g1, B_g4, B_g7, B_g10, B_g11, B_g15, O_D, Nb_D_g1, Nb_D_g4, Nb_D_g7, Nb_D_g10, Nb_D_g11, Nb_D_g15, K_0⟩
 ·
  clear hE a
  rintro i a w18 ⟨A_D, c_D, n_D, es9, ck9, l9, L9, hE, MF9, hrel, hnD, hc_D, hi9, hle, hl, hL, B_g1, B_g4, B_g7, B_g10, B_g11, B_g15, O_D, Nb_D_g1, Nb_D_g4, Nb_D_g7, Nb_D_g10, Nb_D_g11, Nb_D_g15, K_0⟩
  refine wp_seq (c_reg R5_4_l ?_)
  subst hnD
  refine qn hE (rc (pl P5_4 0) (st_move rfl) (rc (pl P5_4 1) (st_fieldAddr Tryd.underlying24 rfl tS22 rfl rfl) (rc (pl P5_4 2) (st_load1 tA22 rfl ((blk_cell B_g1 3).trans rfl)) (rc (pl P5_4 3) (st_len Tryd.underlying22 rfl) rn)))) ?_; clear hE a; intro a hE
  rcases Decidable.em ((i : Int) < (ls.length : Int)) with hc19 | hc19
  ·
   refine qn hE (rg (v := Value.bool true) (pl P5_4 4) wn_none (st_lss rfl rfl (decide_eq_true hc19)) (rc (pl P5_4 5) (st_move rfl) (rg (pl P5_4 6) (wn_some g5_4_5 rfl rfl) (st_move rfl) rn))) ?_; clear hE a; intro a hE
   rcases Decidable.em ((i : Int) < 10) with hc20 | hc20
   ·
    refine qn hE (rg (v := Value.bool true) (pl P5_4 7) (wn_some g5_4_5 rfl rfl) (st_lss rfl rfl (decide_eq_true hc20)) (rc (pl P5_4 8) (st_pick rfl rfl) rn)) ?_; clear hE a; intro a hE
    refine p_nil (x_norm ?_)
    refine c_cond (t := true) hE rfl ?_
    refine wp_skip (x_norm (wp_seq (wp_block (c_reg R5_6_l ?_))))
    obtain ⟨hAe, cce, hKe, hce⟩ := C_elem (i := i) (hFA w (Kp.refl _ _)) zR (show i < ls.length by omega)
    obtain ⟨o, hxo⟩ : ∃ o, ls[i]? = some o := ⟨_, List.getElem?_eq_getElem (by omega)⟩
    have hxe : List.getD ls i zR = o := by rw [List.getD_eq_getElem?_getD, hxo]; rfl
    rw [hxe] at hKe
    obtain rfl := r_open hKe
    refine qn hE (rc (pl P5_6 0) (st_move rfl) (rc (pl P5_6 1) (st_fieldAddr Tryd.underlying24 rfl tS22 rfl rfl) (rc (pl P5_6 2) (st_load1 tA22 rfl ((blk_cell B_g1 3).trans rfl)) (rc (pl P5_6 3) (st_move rfl) (rc (pl P5_6 4) (st_indexAddrR (i := i) (s := 4) Tryd.underlying22 tS61 hAe rfl rfl (by omega)) (rc (pl P5_6 5) (st_loadR (off := i * 4) (j := 0) (k := 4) (vs := [Value.int .i64 o.1, Value.int .i64 o.2.1, Value.int .i64 o.2.2.1, Value.int .i64 o.2.2.2]) tA61 tS61 (fun j u h => cell_to K_0 (hce j u h)) rfl rfl (by omega) rfl) rn)))))) ?_; clear hE a; intro a hE
    refine p_cons (s_call (xs := [Operand.tmp 30]) (args := [Value.agg #[Value.int .i64 o.1, Value.int .i64 o.2.1, Value.int .i64 o.2.2.1, Value.int .i64 o.2.2.2]]) (pl P5_6 6) hE wn_none rfl rfl Tryd.func17 cl17 (to19 o _) ?_)
    rintro e w21 ⟨rfl, hk⟩
    replace B_g1 := kp_blk B_g1 hk (fun h => h)
    replace B_g4 := kp_blk B_g4 hk (fun h => h)
    replace B_g7 := kp_blk B_g7 hk (fun h => h)
    replace B_g10 := kp_blk B_g10 hk (fun h => h)
    replace B_g11 := kp_blk B_g11 hk (fun h => h)
    replace B_g15 := kp_blk B_g15 hk (fun h => h)
    replace O_D := Rv.rdv_keep O_D hk (fun _ _ h => h)
    replace K_0 := K_0.then_ hk (fun _ h => h.elim)
    refine ⟨_, rfl, ?_⟩; clear hE a; intro a hE
    refine p_cons (s_call (xs := [Operand.tmp 25, Operand.tmp 31]) (args := [Value.pointer (some ⟨g10, 0, none⟩), Value.agg #[Value.int .i64 o.1, Value.int .i64 o.2.1, Value.int .i64 o.2.2.1, Value.int .i64 o.2.2.2]]) (pl P5_6 7) hE wn_none rfl rfl Tryd.func16 cl16 (learn_any g10 g11 ck9 es9 l9 o _ (fun h => hrel.okl h) (by have := hrel.len; omega) n_g10_g11 B_g10 B_g11 MF9) ?_)
    rintro e w23 ⟨esm22, ckm22, rfl, MFm22, B_g11', hk⟩
    replace B_g1 := kp_blk B_g1 hk n_g1_g11
    replace B_g4 := kp_blk B_g4 hk n_g4_g11
    replace B_g7 := kp_blk B_g7 hk n_g7_g11
    replace B_g10 := kp_blk B_g10 hk n_g10_g11
    replace B_g15 := kp_blk B_g15 hk (Ne.symm n_g11_g15)
    replace O_D := Rv.rdv_keep O_D hk (fun k hk2 h2 => Nb_D_g11 (by rw [show k = g11 from h2] at hk2; exact hk2))
    replace K_0 := K_0.then_ hk (fun k h => by rw [show k = g11 from h]; exact Or.inr z_0_g11)
    replace B_g11 := B_g11'
    refine ⟨_, rfl, ?_⟩; clear hE a; intro a hE
    refine p_nil (x_norm (c_regL R5_7_l ?_))
    refine qn hE (rc (pl P5_7 0) (st_move rfl) (rc (pl P5_7 1) (st_fieldAddr Tryd.underlying24 rfl tS22 rfl rfl) (rc (pl P5_7 2) (st_load1 tA22 rfl ((blk_cell B_g1 3).trans rfl)) (rc (pl P5_7 3) (st_move rfl) (rc (pl P5_7 4) (st_indexAddrR (i := i) (s := 4) Tryd.underlying22 tS61 hAe rfl rfl (by omega)) (rc (pl P5_7 5) (st_loadR (off := i * 4) (j := 0) (k := 4) (vs := [Value.int .i64 o.1, Value.int .i64 o.2.1, Value.int .i64 o.2.2.1, Value.int .i64 o.2.2.2]) tA61 tS61 (fun j u h => cell_to K_0 (hce j u h)) rfl rfl (by omega) rfl) rn)))))) ?_; clear hE a; intro a hE
    have hnb_g1 := blk_lt B_g1
    have hnb_g4 := blk_lt B_g4
    have hnb_g7 := blk_lt B_g7
    have hnb_g10 := blk_lt B_g10
    have hnb_g11 := blk_lt B_g11
    have hnb_g15 := blk_lt B_g15
    have hkz9 := K_0.kept.1
    refine p_cons (s_call (xs := [Operand.tmp 33, Operand.tmp 38]) (args := [Value.pointer (some ⟨g15, 0, none⟩), Value.agg #[Value.int .i64 o.1, Value.int .i64 o.2.1, Value.int .i64 o.2.2.1, Value.int .i64 o.2.2.2]]) (pl P5_7 6) hE wn_none rfl rfl Tryd.func18 cl18 (rlearn g15 A_D c_D L9 o hrel.ok (by omega) _ B_g15 O_D hc_D (by omega) Nb_D_g15) ?_)
    rintro e w27 ⟨AD224, cD225, x26, rfl, B_g15', O_D2, hc_D2, hg9, hk⟩
    replace B_g1 := kp_blk B_g1 hk n_g1_g15
    replace B_g4 := kp_blk B_g4 hk n_g4_g15
    replace B_g7 := kp_blk B_g7 hk n_g7_g15
    replace B_g10 := kp_blk B_g10 hk n_g10_g15
    replace B_g11 := kp_blk B_g11 hk n_g11_g15
    replace O_D := Rv.rdv_keep O_D hk (fun k hk2 h2 => Nb_D_g15 (by rw [show k = g15 from h2] at hk2; exact hk2))
    replace K_0 := K_0.then_ hk (fun k h => by rw [show k = g15 from h]; exact Or.inr z_0_g15)
    replace B_g15 := B_g15'
    have Nb_D2_g1 : ¬ OB AD224 g1 := fun h => (hg9 _ h).elim Nb_D_g1 (fun h2 => by have := hnb_g1; omega)
    have Nb_D2_g4 : ¬ OB AD224 g4 := fun h => (hg9 _ h).elim Nb_D_g4 (fun h2 => by have := hnb_g4; omega)
    have Nb_D2_g7 : ¬ OB AD224 g7 := fun h => (hg9 _ h).elim Nb_D_g7 (fun h2 => by have := hnb_g7; omega)
    have Nb_D2_g10 : ¬ OB AD224 g10 := fun h => (hg9 _ h).elim Nb_D_g10 (fun h2 => by have := hnb_g10; omega)
    have Nb_D2_g11 : ¬ OB AD224 g11 := fun h => (hg9 _ h).elim Nb_D_g11 (fun h2 => by have := hnb_g11; omega)
    have Nb_D2_g15 : ¬ OB AD224 g15 := fun h => (hg9 _ h).elim Nb_D_g15 (fun h2 => by have := hnb_g15; omega)
    have O_D := O_D2
    have hc_D := hc_D2
    have Nb_D_g1 := Nb_D2_g1
    have Nb_D_g4 := Nb_D2_g4
    have Nb_D_g7 := Nb_D2_g7
    have Nb_D_g10 := Nb_D2_g10
    have Nb_D_g11 := Nb_D2_g11
    have Nb_D_g15 := Nb_D2_g15
    refine ⟨_, rfl, ?_⟩; clear hE a; intro a hE
    refine p_nil (x_normB (x_norm (c_regL R5_5_l ?_)))
    refine qn hE (rc (pl P5_5 0) (st_move rfl) (rc (pl P5_5 1) (st_add (z := (i : Int) + 1) rfl rfl (wr_i64 _ (by omega) (by omega))) (rc (pl P5_5 2) (st_assign rfl) rn))) ?_; clear hE a; intro a hE
    refine p_nil (x_norm ?_)
    have hrel9 := hrel.learn o
    have hle9 : (learnR L9 o).length ≤ i + 1 := Nat.le_trans (learn_len _ _) (Nat.succ_le_succ hle)
    have hl9 : learnL l9 o = (ls.take (i + 1)).foldl learnL [] := by rw [fold_next _ _ hxo, ← hl]
    have hL9 : learnR L9 o = (ls.take (i + 1)).foldl learnR [] := by rw [fold_next _ _ hxo, ← hL]
    exact ⟨i + 1, by omega, AD224, cD225, (learnR L9 o).length, esm22, ckm22, (learnL l9 o), (learnR L9 o), En.sub hE ⟨rfl, rfl, rfl, rfl, rfl, rfl, rfl, trivial⟩, MFm22, hrel9, rfl, hc_D, (by omega), hle9, hl9, hL9, B_g1, B_g4, B_g7, B_g10, B_g11, B_g15, O_D, Nb_D_g1, Nb_D_g4, Nb_D_g7, Nb_D_g10, Nb_D_g11, Nb_D_g15, K_0⟩
   ·
    refine qn hE (rg (v := Value.bool false) (pl P5_4 7) (wn_some g5_4_5 rfl rfl) (st_lss rfl rfl (decide_eq_false hc20)) (rc (pl P5_4 8) (st_pick rfl rfl) rn)) ?_; clear hE a; intro a hE
    refine p_nil (x_norm ?_)
    refine c_cond (t := false) hE rfl ?_
    refine wp_exit (x_exit (x_exit ?_))
    have htk : ls.take i = ls.take 10 := by
     rcases Nat.lt_or_ge i 10 with h | h
     · rw [List.take_of_length_le (by omega), List.take_of_length_le (by omega)]
     · rw [show i = 10 by omega]
    rw [htk] at hl hL
    have hla : l9 = allL ls := hl
    have hLa : L9 = allR ls := hL
    refine x_in (x_norm (c_reg R5_8_l ?_))
    refine qn hE (rc (pl P5_8 0) (st_move rfl) (rc (pl P5_8 1) (st_nil rfl) (rc (pl P5_8 2) (st_fieldAddr Tryd.underlying56 rfl tS22 rfl rfl) (rc (pl P5_8 3) (st_load1 tA22 rfl ((blk_cell B_g15 1).trans rfl)) (rc (pl P5_8 4) (st_fieldAddr Tryd.underlying24 rfl tS22 rfl rfl) rn))))) ?_; clear hE a; intro a hE
    refine p_cons (s_store (off := 3) (k := 1) (cs' := #[Value.int .i64 nd, Value.int .i64 pf, Value.bool rt, Value.slice A_D L9.length c_D]) (pl P5_8 5) hE wn_none tS22 rfl rfl rfl rfl B_g1 (Nat.le_of_ble_eq_true rfl) rfl ?_)
    intro w28 B_g1' hk
    replace B_g4 := kp_blk B_g4 hk (Ne.symm n_g1_g4)
    replace B_g7 := kp_blk B_g7 hk (Ne.symm n_g1_g7)
    replace B_g10 := kp_blk B_g10 hk (Ne.symm n_g1_g10)
    replace B_g11 := kp_blk B_g11 hk (Ne.symm n_g1_g11)
    replace B_g15 := kp_blk B_g15 hk (Ne.symm n_g1_g15)
    replace O_D := Rv.rdv_keep O_D hk (fun k hk2 h2 => Nb_D_g1 (by rw [show k = g1 from h2] at hk2; exact hk2))
    replace K_0 := K_0.then_ hk (fun k h => by rw [show k = g1 from h]; exact Or.inr z_0_g1)
    replace B_g1 := B_g1'
    clear hk
    refine p_nil (x_norm ?_)
    refine c_drawS (S := fun W => W.heap[g1]? = some (.cells #[Value.int .i64 nd, Value.int .i64 pf, Value.bool rt, Value.slice A_D L9.length c_D] 24 (0, 0)) ∧ True) rfl rfl (listed := #[false, false, false, false, false, false, false, false, false, false, false]) rfl ?_
    intro w29 hh hk
    replace B_g1 := kp_blk B_g1 hk (fun h => h)
    replace B_g4 := kp_blk B_g4 hk (fun h => h)
    replace B_g7 := kp_blk B_g7 hk (fun h => h)
    replace B_g10 := kp_blk B_g10 hk (fun h => h)
    replace B_g11 := kp_blk B_g11 hk (fun h => h)
    replace B_g15 := kp_blk B_g15 hk (fun h => h)
    replace O_D := Rv.rdv_keep O_D hk (fun _ _ h => h)
    replace K_0 := K_0.then_ hk (fun _ h => h.elim)
    clear hh hk
    refine Rv.dq (v := Value.pointer (some ⟨g1, 0, none⟩)) p5_9_0 ns5_9 hE wn_none ⟨B_g1, trivial⟩ (fun W hS => (st_fieldAddr Tryd.underlying24 rfl tS3 rfl rfl)) ?_; clear hE a; intro a hE
    refine Rv.dq (v := Value.int .i64 nd) p5_9_1 ns5_9 hE wn_none ⟨B_g1, trivial⟩ (fun W hS => (st_load1 tA3 rfl ((blk_cell hS.1 0).trans rfl))) ?_; clear hE a; intro a hE
    refine Rv.dq (v := Value.pointer (some ⟨g1, 1, none⟩)) p5_9_2 ns5_9 hE wn_none ⟨B_g1, trivial⟩ (fun W hS => (st_fieldAddr Tryd.underlying24 rfl tS3 rfl rfl)) ?_; clear hE a; intro a hE
    refine Rv.dq (v := Value.int .i64 pf) p5_9_3 ns5_9 hE wn_none ⟨B_g1, trivial⟩ (fun W hS => (st_load1 tA3 rfl ((blk_cell hS.1 1).trans rfl))) ?_; clear hE a; intro a hE
    refine Rv.dq (v := Value.pointer (some ⟨g1, 2, none⟩)) p5_9_4 ns5_9 hE wn_none ⟨B_g1, trivial⟩ (fun W hS => (st_fieldAddr Tryd.underlying24 rfl tS4 rfl rfl)) ?_; clear hE a; intro a hE
    refine Rv.dq (v := Value.bool rt) p5_9_5 ns5_9 hE wn_none ⟨B_g1, trivial⟩ (fun W hS => (st_load1 tA4 rfl ((blk_cell hS.1 2).trans rfl))) ?_; clear hE a; intro a hE
    refine Rv.dq (v := Value.pointer (some ⟨g10, 0, none⟩)) p5_9_6 ns5_9 hE wn_none ⟨B_g1, trivial⟩ (fun W hS => (st_move rfl)) ?_; clear hE a; intro a hE
    refine Rv.dq (v := Value.agg #[Value.int .i64 nd, Value.int .i64 pf, Value.bool rt, Value.pointer (some ⟨g10, 0, none⟩)]) p5_9_7 ns5_9 hE wn_none ⟨B_g1, trivial⟩ (fun W hS => (st_build (xs := [(0, Operand.tmp 46), (1, Operand.tmp 48), (2, Operand.tmp 50), (3, Operand.tmp 51)]) (vs := [(0, Value.int .i64 nd), (1, Value.int .i64 pf), (2, Value.bool rt), (3, Value.pointer (some ⟨g10, 0, none⟩))]) (cs := #[Value.int .i64 nd, Value.int .i64 pf, Value.bool rt, Value.pointer (some ⟨g10, 0, none⟩)]) rfl (by kernel_rfl))) ?_; clear hE a; intro a hE
    refine Rv.dq (v := Value.agg #[Value.int .i64 nd, Value.int .i64 pf, Value.bool rt, Value.slice A_D L9.length c_D]) p5_9_8 ns5_9 hE wn_none ⟨B_g1, trivial⟩ (fun W hS => (st_loadN (off := 0) (k := 4) (vs := [Value.int .i64 nd, Value.int .i64 pf, Value.bool rt, Value.slice A_D L9.length c_D]) tA24 tS24 rfl hS.1 rfl rfl)) ?_; clear hE a; intro a hE
    refine d_one (by kernel_rfl) rfl (s_store (off := 0) (k := 4) (cs' := #[Value.int .i64 nd, Value.int .i64 pf, Value.bool rt, Value.pointer (some ⟨g10, 0, none⟩)]) p5_9_9 hE wn_none tS27 rfl rfl rfl rfl B_g4 (Nat.le_of_ble_eq_true rfl) rfl ?_)
    intro w30 B_g4' hk
    replace B_g1 := kp_blk B_g1 hk n_g1_g4
    replace B_g7 := kp_blk B_g7 hk (Ne.symm n_g4_g7)
    replace B_g10 := kp_blk B_g10 hk (Ne.symm n_g4_g10)
    replace B_g11 := kp_blk B_g11 hk (Ne.symm n_g4_g11)
    replace B_g15 := kp_blk B_g15 hk (Ne.symm n_g4_g15)
    replace O_D := Rv.rdv_keep O_D hk (fun k hk2 h2 => Nb_D_g4 (by rw [show k = g4 from h2] at hk2; exact hk2))
    replace K_0 := K_0.then_ hk (fun k h => by rw [show k = g4 from h]; exact Or.inr z_0_g4)
    replace B_g4 := B_g4'
    clear hk
    refine ⟨⟨B_g1, trivial⟩, ?_⟩
    refine d_one (by kernel_rfl) rfl (s_store (off := 0) (k := 4) (cs' := #[Value.int .i64 nd, Value.int .i64 pf, Value.bool rt, Value.slice A_D L9.length c_D]) p5_9_10 hE wn_none tS24 rfl rfl rfl rfl B_g7 (Nat.le_of_ble_eq_true rfl) rfl ?_)
    intro w31 B_g7' hk
    replace B_g1 := kp_blk B_g1 hk n_g1_g7
    replace B_g4 := kp_blk B_g4 hk n_g4_g7
    replace B_g10 := kp_blk B_g10 hk (Ne.symm n_g7_g10)
    replace B_g11 := kp_blk B_g11 hk (Ne.symm n_g7_g11)
    replace B_g15 := kp_blk B_g15 hk (Ne.symm n_g7_g15)
    replace O_D := Rv.rdv_keep O_D hk (fun k hk2 h2 => Nb_D_g7 (by rw [show k = g7 from h2] at hk2; exact hk2))
    replace K_0 := K_0.then_ hk (fun k h => by rw [show k = g7 from h]; exact Or.inr z_0_g7)
    replace B_g7 := B_g7'
    clear hk
    refine ⟨⟨B_g1, trivial⟩, ?_⟩
    refine d_end (by kernel_rfl) ?_
    refine x_norm (wp_ret ?_)
    refine ret_list (rs := [.cell 2 27, .cell 3 24]) (vs := [Value.agg #[Value.int .i64 nd, Value.int .i64 pf, Value.bool rt, Value.pointer (some ⟨g10, 0, none⟩)], Value.agg #[Value.int .i64 nd, Value.int .i64 pf, Value.bool rt, Value.slice A_D L9.length c_D]]) rfl hE (.cellN (us := [Value.int .i64 nd, Value.int .i64 pf, Value.bool rt, Value.pointer (some ⟨g10, 0, none⟩)]) tA27 tS27 rfl B_g4 rfl (.cellN (us := [Value.int .i64 nd, Value.int .i64 pf, Value.bool rt, Value.slice A_D L9.length c_D]) tA24 tS24 rfl B_g7 rfl .nil)) rfl ?_
    subst hla; subst hLa
    have hle10 : (allR ls).length ≤ 10 := Nat.le_trans hle (by omega)
    exact ⟨g10, g11, ck9, es9, A_D, c_D, rfl, z_0_g10, z_0_g11, n_g10_g11, B_g10, B_g11, MF9, O_D, hle10, trivial, K_0⟩
  ·
   refine qn hE (rg (v := Value.bool false) (pl P5_4 4) wn_none (st_lss rfl rfl (decide_eq_false hc19)) (rc (pl P5_4 5) (st_move rfl) (rk (pl P5_4 6) (wn_some g5_4_5 rfl rfl) (rk (pl P5_4 7) (wn_some g5_4_5 rfl rfl) (rc (pl P5_4 8) (st_pick rfl rfl) rn))))) ?_; clear hE a; intro a hE
   refine p_nil (x_norm ?_)
   refine c_cond (t := false) hE rfl ?_
   refine wp_exit (x_exit (x_exit ?_))
   have htk : ls.take i = ls.take 10 := by
    rcases Nat.lt_or_ge i 10 with h | h
    · rw [List.take_of_length_le (by omega), List.take_of_length_le (by omega)]
    · rw [show i = 10 by omega]
   rw [htk] at hl hL
   have hla : l9 = allL ls := hl
   have hLa : L9 = allR ls := hL
   refine x_in (x_norm (c_reg R5_8_l ?_))
   refine qn hE (rc (pl P5_8 0) (st_move rfl) (rc (pl P5_8 1) (st_nil rfl) (rc (pl P5_8 2) (st_fieldAddr Tryd.underlying56 rfl tS22 rfl rfl) (rc (pl P5_8 3) (st_load1 tA22 rfl ((blk_cell B_g15 1).trans rfl)) (rc (pl P5_8 4) (st_fieldAddr Tryd.underlying24 rfl tS22 rfl rfl) rn))))) ?_; clear hE a; intro a hE
   refine p_cons (s_store (off := 3) (k := 1) (cs' := #[Value.int .i64 nd, Value.int .i64 pf, Value.bool rt, Value.slice A_D L9.length c_D]) (pl P5_8 5) hE wn_none tS22 rfl rfl rfl rfl B_g1 (Nat.le_of_ble_eq_true rfl) rfl ?_)
   intro w32 B_g1' hk
   replace B_g4 := kp_blk B_g4 hk (Ne.symm n_g1_g4)
   replace B_g7 := kp_blk B_g7 hk (Ne.symm n_g1_g7)
   replace B_g10 := kp_blk B_g10 hk (Ne.symm n_g1_g10)
   replace B_g11 := kp_blk B_g11 hk (Ne.symm n_g1_g11)
   replace B_g15 := kp_blk B_g15 hk (Ne.symm n_g1_g15)
   replace O_D := Rv.rdv_keep O_D hk (fun k hk2 h2 => Nb_D_g1 (by rw [show k = g1 from h2] at hk2; exact hk2))
   replace K_0 := K_0.then_ hk (fun k h => by rw [show k = g1 from h]; exact Or.inr z_0_g1)
   replace B_g1 := B_g1'
   clear hk
   refine p_nil (x_norm ?_)
   refine c_drawS (S := fun W => W.heap[g1]? = some (.cells #[Value.int .i64 nd, Value.int .i64 pf, Value.bool rt, Value.slice A_D L9.length c_D] 24 (0, 0)) ∧ True) rfl rfl (listed := #[false, false, false, false, false, false, false, false, false, false, false]) rfl ?_
   intro w33 hh hk
   replace B_g1 := kp_blk B_g1 hk (fun h => h)
   replace B_g4 := kp_blk B_g4 hk (fun h => h)
   replace B_g7 := kp_blk B_g7 hk (fun h => h)
   replace B_g10 := kp_blk B_g10 hk (fun h => h)
   replace B_g11 := kp_blk B_g11 hk (fun h => h)
   replace B_g15 := kp_blk B_g15 hk (fun h => h)
   replace O_D := Rv.rdv_keep O_D hk (fun _ _ h => h)
   replace K_0 := K_0.then_ hk (fun _ h => h.elim)
   clear hh hk
   refine Rv.dq (v := Value.pointer (some ⟨g1, 0, none⟩)) p5_9_0 ns5_9 hE wn_none ⟨B_g1, trivial⟩ (fun W hS => (st_fieldAddr Tryd.underlying24 rfl tS3 rfl rfl)) ?_; clear hE a; intro a hE
   refine Rv.dq (v := Value.int .i64 nd) p5_9_1 ns5_9 hE wn_none ⟨B_g1, trivial⟩ (fun W hS => (st_load1 tA3 rfl ((blk_cell hS.1 0).trans rfl))) ?_; clear hE a; intro a hE
   refine Rv.dq (v := Value.pointer (some ⟨g1, 1, none⟩)) p5_9_2 ns5_9 hE wn_none ⟨B_g1, trivial⟩ (fun W hS => (st_fieldAddr Tryd.underlying24 rfl tS3 rfl rfl)) ?_; clear hE a; intro a hE
   refine Rv.dq (v := Value.int .i64 pf) p5_9_3 ns5_9 hE wn_none ⟨B_g1, trivial⟩ (fun W hS => (st_load1 tA3 rfl ((blk_cell hS.1 1).trans rfl))) ?_; clear hE a; intro a hE
   refine Rv.dq (v := Value.pointer (some ⟨g1, 2, none⟩)) p5_9_4 ns5_9 hE wn_none ⟨B_g1, trivial⟩ (fun W hS => (st_fieldAddr Tryd.underlying24 rfl tS4 rfl rfl)) ?_; clear hE a; intro a hE
   refine Rv.dq (v := Value.bool rt) p5_9_5 ns5_9 hE wn_none ⟨B_g1, trivial⟩ (fun W hS => (st_load1 tA4 rfl ((blk_cell hS.1 2).trans rfl))) ?_; clear hE a; intro a hE
   refine Rv.dq (v := Value.pointer (some ⟨g10, 0, none⟩)) p5_9_6 ns5_9 hE wn_none ⟨B_g1, trivial⟩ (fun W hS => (st_move rfl)) ?_; clear hE a; intro a hE
   refine Rv.dq (v := Value.agg #[Value.int .i64 nd, Value.int .i64 pf, Value.bool rt, Value.pointer (some ⟨g10, 0, none⟩)]) p5_9_7 ns5_9 hE wn_none ⟨B_g1, trivial⟩ (fun W hS => (st_build (xs := [(0, Operand.tmp 46), (1, Operand.tmp 48), (2, Operand.tmp 50), (3, Operand.tmp 51)]) (vs := [(0, Value.int .i64 nd), (1, Value.int .i64 pf), (2, Value.bool rt), (3, Value.pointer (some ⟨g10, 0, none⟩))]) (cs := #[Value.int .i64 nd, Value.int .i64 pf, Value.bool rt, Value.pointer (some ⟨g10, 0, none⟩)]) rfl (by kernel_rfl))) ?_; clear hE a; intro a hE
   refine Rv.dq (v := Value.agg #[Value.int .i64 nd, Value.int .i64 pf, Value.bool rt, Value.slice A_D L9.length c_D]) p5_9_8 ns5_9 hE wn_none ⟨B_g1, trivial⟩ (fun W hS => (st_loadN (off := 0) (k := 4) (vs := [Value.int .i64 nd, Value.int .i64 pf, Value.bool rt, Value.slice A_D L9.length c_D]) tA24 tS24 rfl hS.1 rfl rfl)) ?_; clear hE a; intro a hE
   refine d_one (by kernel_rfl) rfl (s_store (off := 0) (k := 4) (cs' := #[Value.int .i64 nd, Value.int .i64 pf, Value.bool rt, Value.pointer (some ⟨g10, 0, none⟩)]) p5_9_9 hE wn_none tS27 rfl rfl rfl rfl B_g4 (Nat.le_of_ble_eq_true rfl) rfl ?_)
   intro w34 B_g4' hk
   replace B_g1 := kp_blk B_g1 hk n_g1_g4
   replace B_g7 := kp_blk B_g7 hk (Ne.symm n_g4_g7)
   replace B_g10 := kp_blk B_g10 hk (Ne.symm n_g4_g10)
   replace B_g11 := kp_blk B_g11 hk (Ne.symm n_g4_g11)
   replace B_g15 := kp_blk B_g15 hk (Ne.symm n_g4_g15)
   replace O_D := Rv.rdv_keep O_D hk (fun k hk2 h2 => Nb_D_g4 (by rw [show k = g4 from h2] at hk2; exact hk2))
   replace K_0 := K_0.then_ hk (fun k h => by rw [show k = g4 from h]; exact Or.inr z_0_g4)
   replace B_g4 := B_g4'
   clear hk
   refine ⟨⟨B_g1, trivial⟩, ?_⟩
   refine d_one (by kernel_rfl) rfl (s_store (off := 0) (k := 4) (cs' := #[Value.int .i64 nd, Value.int .i64 pf, Value.bool rt, Value.slice A_D L9.length c_D]) p5_9_10 hE wn_none tS24 rfl rfl rfl rfl B_g7 (Nat.le_of_ble_eq_true rfl) rfl ?_)
   intro w35 B_g7' hk
   replace B_g1 := kp_blk B_g1 hk n_g1_g7
   replace B_g4 := kp_blk B_g4 hk n_g4_g7
   replace B_g10 := kp_blk B_g10 hk (Ne.symm n_g7_g10)
   replace B_g11 := kp_blk B_g11 hk (Ne.symm n_g7_g11)
   replace B_g15 := kp_blk B_g15 hk (Ne.symm n_g7_g15)
   replace O_D := Rv.rdv_keep O_D hk (fun k hk2 h2 => Nb_D_g7 (by rw [show k = g7 from h2] at hk2; exact hk2))
   replace K_0 := K_0.then_ hk (fun k h => by rw [show k = g7 from h]; exact Or.inr z_0_g7)
   replace B_g7 := B_g7'
   clear hk
   refine ⟨⟨B_g1, trivial⟩, ?_⟩
   refine d_end (by kernel_rfl) ?_
   refine x_norm (wp_ret ?_)
   refine ret_list (rs := [.cell 2 27, .cell 3 24]) (vs := [Value.agg #[Value.int .i64 nd, Value.int .i64 pf, Value.bool rt, Value.pointer (some ⟨g10, 0, none⟩)], Value.agg #[Value.int .i64 nd, Value.int .i64 pf, Value.bool rt, Value.slice A_D L9.length c_D]]) rfl hE (.cellN (us := [Value.int .i64 nd, Value.int .i64 pf, Value.bool rt, Value.pointer (some ⟨g10, 0, none⟩)]) tA27 tS27 rfl B_g4 rfl (.cellN (us := [Value.int .i64 nd, Value.int .i64 pf, Value.bool rt, Value.slice A_D L9.length c_D]) tA24 tS24 rfl B_g7 rfl .nil)) rfl ?_
   subst hla; subst hLa
   have hle10 : (allR ls).length ≤ 10 := Nat.le_trans hle (by omega)
   exact ⟨g10, g11, ck9, es9, A_D, c_D, rfl, z_0_g10, z_0_g11, n_g10_g11, B_g10, B_g11, MF9, O_D, hle10, trivial, K_0⟩
end Go.Proofs.YtnmlckaeheiodaaDoor.Rt
