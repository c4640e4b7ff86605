/- The document's table: Learn. -/
import Derived.Test.YtnmlckaeheiodaaDoorRte
set_option maxRecDepth 100000
set_option linter.unusedVariables false
set_option linter.unusedSimpArgs false
namespace Go.Proofs.YtnmlckaeheiodaaDoor.Rd19
open Go.RowKit Go.Proofs.YtnmlckaeheiodaaDoorW.PrintWords Go.Proofs.YtnmlckaeheiodaaDoor.Ds Go.Proofs.YtnmlckaeheiodaaDoor.Lol Go.Proofs.YtnmlckaeheiodaaDoor.Ra
open Go.Proofs.YtnmlckaeheiodaaDoor.Pk (Kp)
open Go.Proofs.YtnmlckaeheiodaaDoor.Mi (st_eqlP x_retS MapI getI putI)
theorem R18_0_l : List.range (regOf Tryd.f18 0).size = [0, 1] := by kernel_rfl
theorem R18_1_l : List.range (regOf Tryd.f18 1).size = [0, 1, 2] := by kernel_rfl
theorem R18_2_l : List.range (regOf Tryd.f18 2).size = [0] := by kernel_rfl
theorem R18_3_l : List.range (regOf Tryd.f18 3).size = [0, 1, 2, 3, 4] := by kernel_rfl
theorem R18_4_l : List.range (regOf Tryd.f18 4).size = [0, 1] := by kernel_rfl
theorem R18_5_l : List.range (regOf Tryd.f18 5).size = [0, 1, 2, 3, 4, 5, 6, 7, 8] := by kernel_rfl
theorem R18_6_l : List.range (regOf Tryd.f18 6).size = [0, 1, 2, 3, 4, 5] := by kernel_rfl
theorem R18_7_l : List.range (regOf Tryd.f18 7).size = [0, 1, 2, 3, 4, 5, 6, 7, 8, 9, 10, 11, 12] := by kernel_rfl
theorem R18_8_l : List.range (regOf Tryd.f18 8).size = [0] := by kernel_rfl
theorem R18_10_l : List.range (regOf Tryd.f18 10).size = [0] := by kernel_rfl
theorem R18_13_l : List.range (regOf Tryd.f18 13).size = [0] := by kernel_rfl
theorem R18_15_l : List.range (regOf Tryd.f18 15).size = [0, 1, 2] := by kernel_rfl
theorem body18 : Tryd.f18.body = some (.seq (.region 0 (regOf Tryd.f18 0) false) (.seq (.seq (.region 1 (regOf Tryd.f18 1) false) (.cond (Operand.tmp 11) (.seq (.region 2 (regOf Tryd.f18 2) false) (.ret)) (.skip))) (.seq (.region 3 (regOf Tryd.f18 3) false) (.seq (.seq (.region 4 (regOf Tryd.f18 4) false) (.cond (Operand.tmp 17) (.seq (.region 5 (regOf Tryd.f18 5) false) (.seq (.region 6 (regOf Tryd.f18 6) false) (.seq (.seq (.region 7 (regOf Tryd.f18 7) false) (.cond (Operand.tmp 42) (.seq (.region 8 (regOf Tryd.f18 8) false) (.ret)) (.skip))) (.seq (.region 9 (regOf Tryd.f18 9) true) (.seq (.region 10 (regOf Tryd.f18 10) false) (.ret)))))) (.skip))) (.seq (.seq (.region 11 (regOf Tryd.f18 11) true) (.cond (Operand.tmp 74) (.seq (.region 12 (regOf Tryd.f18 12) false) (.ret)) (.skip))) (.seq (.region 13 (regOf Tryd.f18 13) false) (.seq (.block 0 (.loop (.seq (.seq (.region 14 (regOf Tryd.f18 14) true) (.cond (Operand.tmp 94) (.skip) (.exit 0))) (.block 1 (.region 15 (regOf Tryd.f18 15) false))))) (.seq (.region 16 (regOf Tryd.f18 16) true) (.seq (.region 17 (regOf Tryd.f18 17) false) (.ret)))))))))) := by kernel_rfl
theorem P18_0 : (List.range (regOf Tryd.f18 0).size).map (pj (regOf Tryd.f18 0)) = [some (some 3, .box 61 (.tmp 1), 0, none), some (some 4, .assign (.const (.int .i64 0)), 3, none)] := by kernel_rfl
theorem P18_1 : (List.range (regOf Tryd.f18 1).size).map (pj (regOf Tryd.f18 1)) = [some (some 9, .load 61 (.tmp 3), 61, none), some (some 10, .call { callee := .value (.func 30), args := #[.tmp 9], argTypes := #[61] }, 4, none), some (some 11, .unOp .not 4 (.tmp 10), 4, none)] := by kernel_rfl
theorem cl30 : callable Tryd.f30 = true := by kernel_rfl
theorem P18_3 : (List.range (regOf Tryd.f18 3).size).map (pj (regOf Tryd.f18 3)) = [some (some 12, .move (.tmp 0), 54, none), some (some 13, .fieldAddr 61 (.tmp 3) 0, 0, none), some (some 14, .load 3 (.tmp 13), 3, none), some (some 15, .call { callee := .value (.func 31), args := #[.tmp 12, .tmp 14], argTypes := #[54, 3] }, 3, none), some (some 5, .assign (.tmp 15), 3, none)] := by kernel_rfl
theorem cl31 : callable Tryd.f31 = true := by kernel_rfl
theorem P18_4 : (List.range (regOf Tryd.f18 4).size).map (pj (regOf Tryd.f18 4)) = [some (some 16, .move (.tmp 5), 3, none), some (some 17, .binOp .geq 3 (.tmp 16) (.const (.int .i64 0)) 3, 4, none)] := by kernel_rfl
theorem P18_5 : (List.range (regOf Tryd.f18 5).size).map (pj (regOf Tryd.f18 5)) = [some (some 18, .move (.tmp 0), 54, none), some (some 19, .nilCheck (.tmp 18), 0, none), some (some 20, .fieldAddr 56 (.tmp 19) 1, 0, none), some (some 21, .load 22 (.tmp 20), 22, none), some (some 22, .move (.tmp 5), 3, none), some (some 23, .indexAddr 22 (.tmp 21) (.tmp 22), 0, none), some (some 24, .load 61 (.tmp 23), 61, none), some (some 6, .alloc 61, 0, none), some (none, .store 61 (.tmp 6) (.tmp 24), 0, none)] := by kernel_rfl
theorem tZ61 : (Tryd.prog.info? 61).bind (·.zero) = some (Value.agg #[Value.int .i64 0, Value.int .i64 0, Value.int .i64 0, Value.int .i64 0]) := by kernel_rfl
theorem P18_6 : (List.range (regOf Tryd.f18 6).size).map (pj (regOf Tryd.f18 6)) = [some (some 25, .fieldAddr 61 (.tmp 3) 2, 0, none), some (some 26, .load 3 (.tmp 25), 3, none), some (some 27, .fieldAddr 61 (.tmp 6) 2, 0, none), some (some 28, .load 3 (.tmp 27), 3, none), some (some 29, .call { callee := .value (.func 32), args := #[.tmp 26, .tmp 28], argTypes := #[3, 3] }, 3, none), some (some 7, .assign (.tmp 29), 3, none)] := by kernel_rfl
theorem cl32 : callable Tryd.f32 = true := by kernel_rfl
theorem ns18_9 : Region.noSelect (regOf Tryd.f18 9) = true := by kernel_rfl
theorem p18_9_0 : pj (regOf Tryd.f18 9) 0 = some (some 43, .move (.tmp 0), 54, none) := by kernel_rfl
theorem p18_9_2 : pj (regOf Tryd.f18 9) 2 = some (some 45, .move (.tmp 0), 54, none) := by kernel_rfl
theorem p18_9_3 : pj (regOf Tryd.f18 9) 3 = some (some 46, .nilCheck (.tmp 45), 0, none) := by kernel_rfl
theorem p18_9_4 : pj (regOf Tryd.f18 9) 4 = some (some 47, .fieldAddr 56 (.tmp 46) 1, 0, none) := by kernel_rfl
theorem p18_9_6 : pj (regOf Tryd.f18 9) 6 = some (some 49, .move (.tmp 5), 3, none) := by kernel_rfl
theorem p18_9_9 : pj (regOf Tryd.f18 9) 9 = some (some 52, .load 61 (.tmp 3), 61, none) := by kernel_rfl
theorem p18_9_12 : pj (regOf Tryd.f18 9) 12 = some (some 55, .move (.tmp 0), 54, none) := by kernel_rfl
theorem p18_9_13 : pj (regOf Tryd.f18 9) 13 = some (some 56, .nilCheck (.tmp 55), 0, none) := by kernel_rfl
theorem p18_9_14 : pj (regOf Tryd.f18 9) 14 = some (some 57, .fieldAddr 56 (.tmp 56) 1, 0, none) := by kernel_rfl
theorem p18_9_16 : pj (regOf Tryd.f18 9) 16 = some (some 59, .move (.tmp 5), 3, none) := by kernel_rfl
theorem p18_9_17 : pj (regOf Tryd.f18 9) 17 = some (some 60, .binOp .add 3 (.tmp 59) (.const (.int .i64 1)) 3, 3, none) := by kernel_rfl
theorem p18_9_1 : pj (regOf Tryd.f18 9) 1 = some (some 44, .buildSlice 22 0 #[], 22, none) := by kernel_rfl
theorem p18_9_5 : pj (regOf Tryd.f18 9) 5 = some (some 48, .load 22 (.tmp 47), 22, none) := by kernel_rfl
theorem p18_9_7 : pj (regOf Tryd.f18 9) 7 = some (some 50, .slice 22 (.tmp 48) none (some (.tmp 49)) none, 22, none) := by kernel_rfl
theorem p18_9_10 : pj (regOf Tryd.f18 9) 10 = some (some 53, .buildSlice 22 1 #[(0, .tmp 52)], 22, none) := by kernel_rfl
theorem p18_9_15 : pj (regOf Tryd.f18 9) 15 = some (some 58, .load 22 (.tmp 57), 22, none) := by kernel_rfl
theorem p18_9_18 : pj (regOf Tryd.f18 9) 18 = some (some 61, .slice 22 (.tmp 58) (some (.tmp 60)) none none, 22, none) := by kernel_rfl
theorem p18_9_8 : pj (regOf Tryd.f18 9) 8 = some (some 51, .call { callee := .builtin .append, args := #[.tmp 44, .tmp 50], argTypes := #[22, 22] }, 22, none) := by kernel_rfl
theorem p18_9_11 : pj (regOf Tryd.f18 9) 11 = some (some 54, .call { callee := .builtin .append, args := #[.tmp 51, .tmp 53], argTypes := #[22, 22] }, 22, none) := by kernel_rfl
theorem p18_9_19 : pj (regOf Tryd.f18 9) 19 = some (some 62, .call { callee := .builtin .append, args := #[.tmp 54, .tmp 61], argTypes := #[22, 22] }, 22, none) := by kernel_rfl
theorem p18_9_20 : pj (regOf Tryd.f18 9) 20 = some (some 63, .nilCheck (.tmp 43), 0, none) := by kernel_rfl
theorem p18_9_21 : pj (regOf Tryd.f18 9) 21 = some (some 64, .fieldAddr 56 (.tmp 63) 1, 0, none) := by kernel_rfl
theorem p18_9_22 : pj (regOf Tryd.f18 9) 22 = some (none, .store 22 (.tmp 64) (.tmp 62), 0, none) := by kernel_rfl
theorem p18_10_0 : pj (regOf Tryd.f18 10) 0 = some (some 4, .assign (.const (.int .i64 0)), 3, none) := by kernel_rfl
theorem P18_7 : (List.range (regOf Tryd.f18 7).size).map (pj (regOf Tryd.f18 7)) = [some (some 30, .move (.tmp 7), 3, none), some (some 31, .binOp .neq 3 (.tmp 30) (.const (.int .i64 2)) 3, 4, none), some (some 32, .move (.tmp 31), 4, none), some (some 33, .move (.tmp 7), 3, some (2, true)), some (some 34, .binOp .neq 3 (.tmp 33) (.const (.int .i64 0)) 3, 4, some (2, true)), some (some 35, .move (.tmp 34), 4, some (2, true)), some (some 36, .fieldAddr 61 (.tmp 3) 1, 0, some (5, false)), some (some 37, .load 3 (.tmp 36), 3, some (5, false)), some (some 38, .fieldAddr 61 (.tmp 6) 1, 0, some (5, false)), some (some 39, .load 3 (.tmp 38), 3, some (5, false)), some (some 40, .binOp .neq 3 (.tmp 37) (.tmp 39) 3, 4, some (5, false)), some (some 41, .pick (.tmp 35) (.const (.bool true)) (.tmp 40), 4, some (2, true)), some (some 42, .pick (.tmp 32) (.tmp 41) (.const (.bool false)), 4, none)] := by kernel_rfl
theorem g18_7_2 : dstOf (regOf Tryd.f18 7) 2 = some 32 := by kernel_rfl
theorem g18_7_5 : dstOf (regOf Tryd.f18 7) 5 = some 35 := by kernel_rfl
theorem p18_8_0 : pj (regOf Tryd.f18 8) 0 = some (some 4, .assign (.const (.int .i64 9)), 3, none) := by kernel_rfl
theorem ns18_11 : Region.noSelect (regOf Tryd.f18 11) = true := by kernel_rfl
theorem p18_11_0 : pj (regOf Tryd.f18 11) 0 = some (some 65, .move (.tmp 0), 54, none) := by kernel_rfl
theorem p18_11_1 : pj (regOf Tryd.f18 11) 1 = some (some 66, .nilCheck (.tmp 65), 0, none) := by kernel_rfl
theorem p18_11_2 : pj (regOf Tryd.f18 11) 2 = some (some 67, .fieldAddr 56 (.tmp 66) 1, 0, none) := by kernel_rfl
theorem p18_11_3 : pj (regOf Tryd.f18 11) 3 = some (some 68, .load 22 (.tmp 67), 22, none) := by kernel_rfl
theorem p18_11_4 : pj (regOf Tryd.f18 11) 4 = some (some 69, .call { callee := .builtin .len, args := #[.tmp 68], argTypes := #[22] }, 3, none) := by kernel_rfl
theorem p18_11_5 : pj (regOf Tryd.f18 11) 5 = some (some 70, .move (.tmp 0), 54, none) := by kernel_rfl
theorem p18_11_6 : pj (regOf Tryd.f18 11) 6 = some (some 71, .nilCheck (.tmp 70), 0, none) := by kernel_rfl
theorem p18_11_7 : pj (regOf Tryd.f18 11) 7 = some (some 72, .fieldAddr 56 (.tmp 71) 0, 0, none) := by kernel_rfl
theorem p18_11_8 : pj (regOf Tryd.f18 11) 8 = some (some 73, .load 3 (.tmp 72), 3, none) := by kernel_rfl
theorem p18_11_9 : pj (regOf Tryd.f18 11) 9 = some (some 74, .binOp .geq 3 (.tmp 69) (.tmp 73) 3, 4, none) := by kernel_rfl
theorem p18_13_0 : pj (regOf Tryd.f18 13) 0 = some (some 8, .assign (.const (.int .i64 0)), 3, none) := by kernel_rfl
theorem ns18_14 : Region.noSelect (regOf Tryd.f18 14) = true := by kernel_rfl
theorem p18_14_0 : pj (regOf Tryd.f18 14) 0 = some (some 75, .move (.tmp 8), 3, none) := by kernel_rfl
theorem p18_14_1 : pj (regOf Tryd.f18 14) 1 = some (some 76, .move (.tmp 0), 54, none) := by kernel_rfl
theorem p18_14_2 : pj (regOf Tryd.f18 14) 2 = some (some 77, .nilCheck (.tmp 76), 0, none) := by kernel_rfl
theorem p18_14_3 : pj (regOf Tryd.f18 14) 3 = some (some 78, .fieldAddr 56 (.tmp 77) 1, 0, none) := by kernel_rfl
theorem p18_14_4 : pj (regOf Tryd.f18 14) 4 = some (some 79, .load 22 (.tmp 78), 22, none) := by kernel_rfl
theorem p18_14_5 : pj (regOf Tryd.f18 14) 5 = some (some 80, .call { callee := .builtin .len, args := #[.tmp 79], argTypes := #[22] }, 3, none) := by kernel_rfl
theorem p18_14_6 : pj (regOf Tryd.f18 14) 6 = some (some 81, .binOp .lss 3 (.tmp 75) (.tmp 80) 3, 4, none) := by kernel_rfl
theorem p18_14_7 : pj (regOf Tryd.f18 14) 7 = some (some 82, .move (.tmp 81), 4, none) := by kernel_rfl
theorem g18_14_7 : dstOf (regOf Tryd.f18 14) 7 = some 82 := by kernel_rfl
theorem p18_14_8 : pj (regOf Tryd.f18 14) 8 = some (some 83, .move (.tmp 0), 54, some (7, true)) := by kernel_rfl
theorem p18_14_9 : pj (regOf Tryd.f18 14) 9 = some (some 84, .nilCheck (.tmp 83), 0, some (7, true)) := by kernel_rfl
theorem p18_14_10 : pj (regOf Tryd.f18 14) 10 = some (some 85, .fieldAddr 56 (.tmp 84) 1, 0, some (7, true)) := by kernel_rfl
theorem p18_14_11 : pj (regOf Tryd.f18 14) 11 = some (some 86, .load 22 (.tmp 85), 22, some (7, true)) := by kernel_rfl
theorem p18_14_12 : pj (regOf Tryd.f18 14) 12 = some (some 87, .move (.tmp 8), 3, some (7, true)) := by kernel_rfl
theorem p18_14_13 : pj (regOf Tryd.f18 14) 13 = some (some 88, .indexAddr 22 (.tmp 86) (.tmp 87), 0, some (7, true)) := by kernel_rfl
theorem p18_14_14 : pj (regOf Tryd.f18 14) 14 = some (some 89, .fieldAddr 61 (.tmp 88) 0, 0, some (7, true)) := by kernel_rfl
theorem p18_14_15 : pj (regOf Tryd.f18 14) 15 = some (some 90, .load 3 (.tmp 89), 3, some (7, true)) := by kernel_rfl
theorem p18_14_16 : pj (regOf Tryd.f18 14) 16 = some (some 91, .fieldAddr 61 (.tmp 3) 0, 0, some (7, true)) := by kernel_rfl
theorem p18_14_17 : pj (regOf Tryd.f18 14) 17 = some (some 92, .load 3 (.tmp 91), 3, some (7, true)) := by kernel_rfl
theorem p18_14_18 : pj (regOf Tryd.f18 14) 18 = some (some 93, .binOp .lss 3 (.tmp 90) (.tmp 92) 3, 4, some (7, true)) := by kernel_rfl
theorem p18_14_19 : pj (regOf Tryd.f18 14) 19 = some (some 94, .pick (.tmp 82) (.tmp 93) (.const (.bool false)), 4, none) := by kernel_rfl
theorem P18_15 : (List.range (regOf Tryd.f18 15).size).map (pj (regOf Tryd.f18 15)) = [some (some 95, .move (.tmp 8), 3, none), some (some 96, .binOp .add 3 (.tmp 95) (.const (.int .i64 1)) 3, 3, none), some (some 8, .assign (.tmp 96), 3, none)] := by kernel_rfl
theorem p18_2_0 : pj (regOf Tryd.f18 2) 0 = some (some 4, .assign (.const (.int .i64 1)), 3, none) := by kernel_rfl
set_option maxHeartbeats 4000000 in
theorem rlearn (gd : Nat) (A : Option Addr) (c : Nat) (L : List R4) (r : R4) (hok : ∀ o ∈ L, okR o = true) (hlt : L.length < 32) (w : World) (hd : w.heap[gd]? = some (.cells #[.int .i64 32, .slice A L.length c] 56 (0, 0))) (hR : Rv.RdV w A L.length 4 (flR L)) (hcA : L.length ≤ c ∧ (A = none → c = 0)) (hll : L.length ≤ 1000) (hnd : ¬ OB A gd) : Calls Tryd.prog 18 #[.pointer (some ⟨gd, 0, none⟩), .agg #[.int .i64 r.1, .int .i64 r.2.1, .int .i64 r.2.2.1, .int .i64 r.2.2.2]] w fun e w' => ∃ A' c', ∃ x : Int, e = .returned (.int .i64 x) ∧ w'.heap[gd]? = some (.cells #[.int .i64 32, .slice A' (learnR L r).length c'] 56 (0, 0)) ∧ Rv.RdV w' A' (learnR L r).length 4 (flR (learnR L r)) ∧ ((learnR L r).length ≤ c' ∧ (A' = none → c' = 0)) ∧ (∀ k, OB A' k → OB A k ∨ w.heap.size ≤ k) ∧ Kp w w' (fun k => k = gd) := by
 have K_0 := Kp.refl w (fun k => k = gd)
 have B_gd := hd
 have O_L := hR
 have Nb_L_gd := hnd
 refine enter (args := [Value.pointer (some ⟨gd, 0, none⟩), Value.agg #[Value.int .i64 r.1, Value.int .i64 r.2.1, Value.int .i64 r.2.2.1, Value.int .i64 r.2.2.2]]) (n := 118) Tryd.func18 body18 rfl rfl rfl ?_
 intro a hE
 refine c_reg R18_0_l ?_
 refine p_cons (s_box (pl P18_0 0) hE wn_none rfl rfl ?_)
 clear hE a; intro g1 w2 z3 B_g1 hk a hE
 replace B_g1 : w2.heap[g1]? = some (.cells #[Value.int .i64 r.1, Value.int .i64 r.2.1, Value.int .i64 r.2.2.1, Value.int .i64 r.2.2.2] 61 (0, 0)) := B_g1
 have n_gd_g1 : gd ≠ g1 := ne_new B_gd z3
 have z_0_g1 := Nat.le_trans K_0.kept.1 z3
 have Nb_L_g1 : ¬ OB A g1 := fun h => by have := (Rv.rdv_ob O_L h).2; omega
 replace B_gd := kp_blk B_gd hk (fun h => h)
 replace O_L := Rv.rdv_keep O_L hk (fun _ _ h => h)
 replace K_0 := K_0.then_ hk (fun _ h => h.elim)
 clear hk
 refine q0 (pl P18_0 1) hE (st_assign rfl) ?_; clear hE a; intro a hE
 refine p_nil (x_norm (wp_seq (c_reg R18_1_l ?_)))
 refine q0 (pl P18_1 0) hE (st_loadN (off := 0) (k := 4) (vs := [Value.int .i64 r.1, Value.int .i64 r.2.1, Value.int .i64 r.2.2.1, Value.int .i64 r.2.2.2]) tA61 tS61 rfl B_g1 rfl rfl) ?_; clear hE a; intro a hE
 refine p_cons (s_call (xs := [Operand.tmp 9]) (args := [Value.agg #[Value.int .i64 r.1, Value.int .i64 r.2.1, Value.int .i64 r.2.2.1, Value.int .i64 r.2.2.2]]) (pl P18_1 1) hE wn_none rfl rfl Tryd.func30 cl30 (rright r _) ?_)
 rintro e w4 ⟨rfl, hk⟩
 replace B_gd := kp_blk B_gd hk (fun h => h)
 replace B_g1 := kp_blk B_g1 hk (fun h => h)
 replace O_L := Rv.rdv_keep O_L hk (fun _ _ h => h)
 replace K_0 := K_0.then_ hk (fun _ h => h.elim)
 refine ⟨_, rfl, ?_⟩; clear hE a; intro a hE
 refine q0 (pl P18_1 2) hE (st_not rfl rfl) ?_; clear hE a; intro a hE
 refine p_nil (x_norm ?_)
 rcases Bool.eq_false_or_eq_true (okR r) with hb5 | hb5
 ·
  rw [hb5] at hE
  refine c_cond (t := false) hE rfl ?_
  refine wp_skip (x_norm ?_)
  rcases Decidable.em ((getR L r.1).isSome = true) with hHAS | hHAS
  ·
   have hr9 := okR_b hb5
   obtain ⟨o, ho⟩ := Option.isSome_iff_exists.1 hHAS
   obtain ⟨i, hx, he9, hmin⟩ := getR_at ho
   have hra := at_of hx he9 hmin
   have hob9 := okR_b (hok o (List.mem_of_getElem? hx))
   have hiL : i < L.length := (List.getElem?_eq_some_iff.1 hx).1
   obtain ⟨AD, hAD⟩ : ∃ z, (if c = i + 1 then A else A.map (·.add ((i + 1) * 4))) = z := ⟨_, rfl⟩
   have hAeo := (Rv.rdv_elem (fl := fl4) O_L (by decide) (fun _ => rfl) hx).1
   refine c_reg R18_3_l ?_
   refine qn hE (rc (pl P18_3 0) (st_move rfl) (rc (pl P18_3 1) (st_fieldAddr Tryd.underlying61 rfl tS3 rfl rfl) (rc (pl P18_3 2) (st_load1 tA3 rfl ((blk_cell B_g1 0).trans rfl)) rn))) ?_; clear hE a; intro a hE
   refine p_cons (s_call (xs := [Operand.tmp 12, Operand.tmp 14]) (args := [Value.pointer (some ⟨gd, 0, none⟩), Value.int .i64 r.1]) (pl P18_3 3) hE wn_none rfl rfl Tryd.func31 cl31 (rfind gd A c L r.1 (i : Int) hra.1 _ B_gd O_L hcA hll Nb_L_gd) ?_)
   rintro e w6 ⟨rfl, hk⟩
   replace B_gd := kp_blk B_gd hk (fun h => h)
   replace B_g1 := kp_blk B_g1 hk (fun h => h)
   replace O_L := Rv.rdv_keep O_L hk (fun _ _ h => h)
   replace K_0 := K_0.then_ hk (fun _ h => h.elim)
   refine ⟨_, rfl, ?_⟩; clear hE a; intro a hE
   refine q0 (pl P18_3 4) hE (st_assign rfl) ?_; clear hE a; intro a hE
   refine p_nil (x_norm (wp_seq (c_reg R18_4_l ?_)))
   refine qn hE (rc (pl P18_4 0) (st_move rfl) (rc (pl P18_4 1) (st_geq (b := true) rfl rfl (decide_eq_true (by omega))) rn)) ?_; clear hE a; intro a hE
   refine p_nil (x_norm ?_)
   refine c_cond (t := true) hE rfl ?_
   refine c_reg R18_5_l ?_
   refine qn hE (rc (pl P18_5 0) (st_move rfl) (rc (pl P18_5 1) (st_nil rfl) (rc (pl P18_5 2) (st_fieldAddr Tryd.underlying56 rfl tS22 rfl rfl) (rc (pl P18_5 3) (st_load1 tA22 rfl ((blk_cell B_gd 1).trans rfl)) (rc (pl P18_5 4) (st_move rfl) (rc (pl P18_5 5) (st_indexAddrR (i := i) (s := 4) Tryd.underlying22 tS61 hAeo rfl rfl (by omega)) (rc (pl P18_5 6) (st_loadR (off := i * 4) (j := 0) (k := 4) (vs := [Value.int .i64 o.1, Value.int .i64 o.2.1, Value.int .i64 o.2.2.1, Value.int .i64 o.2.2.2]) tA61 tS61 (Rv.rdv_elem (fl := fl4) O_L (by decide) (fun _ => rfl) hx).2 rfl rfl (by omega) rfl) rn))))))) ?_; clear hE a; intro a hE
   refine p_cons (s_alloc (pl P18_5 7) hE wn_none rfl tZ61 ?_)
   clear hE a; intro g7 w8 z9 B_g7 hk a hE
   replace B_g7 : w8.heap[g7]? = some (.cells #[Value.int .i64 0, Value.int .i64 0, Value.int .i64 0, Value.int .i64 0] 61 (0, 0)) := B_g7
   have n_gd_g7 : gd ≠ g7 := ne_new B_gd z9
   have n_g1_g7 : g1 ≠ g7 := ne_new B_g1 z9
   have z_0_g7 := Nat.le_trans K_0.kept.1 z9
   have Nb_L_g7 : ¬ OB A g7 := fun h => by have := (Rv.rdv_ob O_L h).2; omega
   replace B_gd := kp_blk B_gd hk (fun h => h)
   replace B_g1 := kp_blk B_g1 hk (fun h => h)
   replace O_L := Rv.rdv_keep O_L hk (fun _ _ h => h)
   replace K_0 := K_0.then_ hk (fun _ h => h.elim)
   clear hk
   refine p_cons (s_store (off := 0) (k := 4) (cs' := #[Value.int .i64 o.1, Value.int .i64 o.2.1, Value.int .i64 o.2.2.1, Value.int .i64 o.2.2.2]) (pl P18_5 8) hE wn_none tS61 rfl rfl rfl rfl B_g7 (Nat.le_of_ble_eq_true rfl) rfl ?_)
   intro w10 B_g7' hk
   replace B_gd := kp_blk B_gd hk n_gd_g7
   replace B_g1 := kp_blk B_g1 hk n_g1_g7
   replace O_L := Rv.rdv_keep O_L hk (fun k hk2 h2 => Nb_L_g7 (by rw [show k = g7 from h2] at hk2; exact hk2))
   replace K_0 := K_0.then_ hk (fun k h => by rw [show k = g7 from h]; exact Or.inr z_0_g7)
   replace B_g7 := B_g7'
   clear hk
   refine p_nil (x_norm (c_reg R18_6_l ?_))
   refine qn hE (rc (pl P18_6 0) (st_fieldAddr Tryd.underlying61 rfl tS3 rfl rfl) (rc (pl P18_6 1) (st_load1 tA3 rfl ((blk_cell B_g1 2).trans rfl)) (rc (pl P18_6 2) (st_fieldAddr Tryd.underlying61 rfl tS3 rfl rfl) (rc (pl P18_6 3) (st_load1 tA3 rfl ((blk_cell B_g7 2).trans rfl)) rn)))) ?_; clear hE a; intro a hE
   refine p_cons (s_call (xs := [Operand.tmp 26, Operand.tmp 28]) (args := [Value.int .i64 r.2.2.1, Value.int .i64 o.2.2.1]) (pl P18_6 4) hE wn_none rfl rfl Tryd.func32 cl32 (rcompare_any r.2.2.1 o.2.2.1 (by omega) (by omega) _) ?_)
   rintro e w11 ⟨rfl, hk⟩
   replace B_gd := kp_blk B_gd hk (fun h => h)
   replace B_g1 := kp_blk B_g1 hk (fun h => h)
   replace B_g7 := kp_blk B_g7 hk (fun h => h)
   replace O_L := Rv.rdv_keep O_L hk (fun _ _ h => h)
   replace K_0 := K_0.then_ hk (fun _ h => h.elim)
   refine ⟨_, rfl, ?_⟩; clear hE a; intro a hE
   refine q0 (pl P18_6 5) hE (st_assign rfl) ?_; clear hE a; intro a hE
   refine p_nil (x_norm ?_)
   refine Rv.join_have (y := .seq (.region 9 (regOf Tryd.f18 9) true) (.seq (.region 10 (regOf Tryd.f18 10) false) (.ret))) (I := fun a W => En 118 a [(0, Value.pointer (some ⟨gd, 0, none⟩)), (1, Value.agg #[Value.int .i64 r.1, Value.int .i64 r.2.1, Value.int .i64 r.2.2.1, Value.int .i64 r.2.2.2]), (3, Value.pointer (some ⟨g1, 0, none⟩)), (11, Value.bool false), (5, Value.int .i64 (i : Int)), (17, Value.bool true), (6, Value.pointer (some ⟨g7, 0, none⟩)), (7, Value.int .i64 (cmpF r.2.2.1 o.2.2.1))] ∧ freshB r o = true ∧ W.heap[gd]? = some (.cells #[Value.int .i64 32, Value.slice A L.length c] 56 (0, 0)) ∧ W.heap[g1]? = some (.cells #[Value.int .i64 r.1, Value.int .i64 r.2.1, Value.int .i64 r.2.2.1, Value.int .i64 r.2.2.2] 61 (0, 0)) ∧ W.heap[g7]? = some (.cells #[Value.int .i64 o.1, Value.int .i64 o.2.1, Value.int .i64 o.2.2.1, Value.int .i64 o.2.2.2] 61 (0, 0)) ∧ Rv.RdV W A L.length 4 (flR L) ∧ ¬ OB A gd ∧ ¬ OB A g1 ∧ ¬ OB A g7 ∧ Kp w W (fun k => k = gd)) ?_ (fun jn9 => ?_)
   ·
    clear hE a
    rintro a w12 ⟨hE, hf9, B_gd, B_g1, B_g7, O_L, Nb_L_gd, Nb_L_g1, Nb_L_g7, K_0⟩
    refine c_drawMS (S := fun W => W.heap[g1]? = some (.cells #[Value.int .i64 r.1, Value.int .i64 r.2.1, Value.int .i64 r.2.2.1, Value.int .i64 r.2.2.2] 61 (0, 0)) ∧ W.heap[g7]? = some (.cells #[Value.int .i64 o.1, Value.int .i64 o.2.1, Value.int .i64 o.2.2.1, Value.int .i64 o.2.2.2] 61 (0, 0)) ∧ True) rfl rfl (listed := #[false, false, false, false, false, false, false, false, false, false, false, false, false, false, false, false, false, false, false, false, false, false, false]) rfl (by repeat' first | exact pan_body | refine pan_then ?_ | refine pan_block ?_) (fun QQ hQ hend => ?_)
    have dr9_23 : ∀ (A9_11 : Option Addr) (A9_19 : Option Addr) (A9_8 : Option Addr) (c9_11 : Nat) (c9_19 : Nat) (c9_8 : Nat) (g9_1 : Nat) (g9_10 : Nat) (W : World) (a : Act), En 118 a [(0, Value.pointer (some ⟨gd, 0, none⟩)), (1, Value.agg #[Value.int .i64 r.1, Value.int .i64 r.2.1, Value.int .i64 r.2.2.1, Value.int .i64 r.2.2.2]), (3, Value.pointer (some ⟨g1, 0, none⟩)), (5, Value.int .i64 (i : Int)), (6, Value.pointer (some ⟨g7, 0, none⟩)), (7, Value.int .i64 (cmpF r.2.2.1 o.2.2.1)), (11, Value.bool false), (17, Value.bool true), (43, Value.pointer (some ⟨gd, 0, none⟩)), (44, Value.slice (some ⟨g9_1, 0, none⟩) 0 0), (45, Value.pointer (some ⟨gd, 0, none⟩)), (46, Value.pointer (some ⟨gd, 0, none⟩)), (47, Value.pointer (some ⟨gd, 1, none⟩)), (48, Value.slice A L.length c), (49, Value.int .i64 (i : Int)), (50, Value.slice A i c), (51, Value.slice A9_8 (0 + i) c9_8), (52, Value.agg #[Value.int .i64 r.1, Value.int .i64 r.2.1, Value.int .i64 r.2.2.1, Value.int .i64 r.2.2.2]), (53, Value.slice (some ⟨g9_10, 0, none⟩) 1 1), (54, Value.slice A9_11 ((0 + i) + 1) c9_11), (55, Value.pointer (some ⟨gd, 0, none⟩)), (56, Value.pointer (some ⟨gd, 0, none⟩)), (57, Value.pointer (some ⟨gd, 1, none⟩)), (58, Value.slice A L.length c), (59, Value.int .i64 (i : Int)), (60, Value.int .i64 ((i : Int) + 1)), (61, Value.slice AD (L.length - (i + 1)) (c - (i + 1))), (62, Value.slice A9_19 (((0 + i) + 1) + (L.length - (i + 1))) c9_19), (63, Value.pointer (some ⟨gd, 0, none⟩)), (64, Value.pointer (some ⟨gd, 1, none⟩))] → W.heap[gd]? = some (.cells #[Value.int .i64 32, Value.slice A9_19 (((0 + i) + 1) + (L.length - (i + 1))) c9_19] 56 (0, 0)) → W.heap[g1]? = some (.cells #[Value.int .i64 r.1, Value.int .i64 r.2.1, Value.int .i64 r.2.2.1, Value.int .i64 r.2.2.2] 61 (0, 0)) → W.heap[g7]? = some (.cells #[Value.int .i64 o.1, Value.int .i64 o.2.1, Value.int .i64 o.2.2.1, Value.int .i64 o.2.2.2] 61 (0, 0)) → W.heap[g9_10]? = some (.cells #[Value.int .i64 r.1, Value.int .i64 r.2.1, Value.int .i64 r.2.2.1, Value.int .i64 r.2.2.2] 61 (0, 0)) → g1 ≠ g9_10 → g1 ≠ gd → g7 ≠ g9_10 → g7 ≠ gd → g9_10 ≠ gd → w.heap.size ≤ g9_10 → ¬ OB A g9_10 → (∀ k, OB A k → ¬ OB A9_19 k) → ¬ OB A9_19 gd → ¬ OB A9_19 g1 → ¬ OB A9_19 g7 → ¬ OB A9_19 g9_10 → (∀ k, OB A9_19 k → (fun k => k = gd) k ∨ w.heap.size ≤ k) → (∀ k, OB A9_19 k → ¬ OB A k) → Rv.RdV W A L.length 4 (flR L) → W.ownsRow w.heap.size 61 4 (.slice A9_19 (((0 + i) + 1) + (L.length - (i + 1))) c9_19) (((0 + i) + 1) + (L.length - (i + 1))) ((([] ++ ((flR L).take (i * 4))) ++ [Value.int .i64 r.1, Value.int .i64 r.2.1, Value.int .i64 r.2.2.1, Value.int .i64 r.2.2.2]) ++ ((flR L).drop ((i + 1) * 4))) → Kp w W (fun k => k = gd) → wpAnyH Tryd.prog .any (regOf Tryd.f18 9) QQ (fun W => W.heap[g1]? = some (.cells #[Value.int .i64 r.1, Value.int .i64 r.2.1, Value.int .i64 r.2.2.1, Value.int .i64 r.2.2.2] 61 (0, 0)) ∧ W.heap[g7]? = some (.cells #[Value.int .i64 o.1, Value.int .i64 o.2.1, Value.int .i64 o.2.2.1, Value.int .i64 o.2.2.2] 61 (0, 0)) ∧ True) 0 #[true, true, true, true, true, true, true, true, true, true, true, true, true, true, true, true, true, true, true, true, true, true, true] a W := by
     intro A9_11 A9_19 A9_8 c9_11 c9_19 c9_8 g9_1 g9_10 w58 a hE B_gd B_g1 B_g7 B_g9_10 n_g1_g9_10 n_g1_gd n_g7_g9_10 n_g7_gd n_g9_10_gd z_0_g9_10 Nb_L_g9_10 NN_L_q9_8 Nb_q9_8_gd Nb_q9_8_g1 Nb_q9_8_g7 Nb_q9_8_g9_10 Z_0_q9_8 NN_q9_8_L O_L O_q9_8 K_0
     refine d_end (by kernel_rfl) (hend _ _ ?_)
     refine c_reg R18_10_l ?_
     refine q0 p18_10_0 hE (st_assign rfl) ?_; clear hE a; intro a hE
     refine p_nil (x_norm (wp_ret (x_ret ?_)))
     refine ret_one (v := Value.int .i64 0) rfl hE (.tmp rfl .nil) ?_
     have hf9 : freshB r o = true := by exact hf9
     have e9 : learnR L r = L.take i ++ r :: L.drop (i + 1) := by unfold learnR; rw [if_pos hb5, ho]; show (if freshB r o = true then _ else _) = _; rw [hf9]; exact hra.2.2 r rfl
     rw [cut4] at O_q9_8
     rw [e9]
     have hln : (((0 + i) + 1) + (L.length - (i + 1))) = (L.take i ++ r :: L.drop (i + 1)).length := by rw [List.length_append, List.length_cons, List.length_take, List.length_drop]; omega
     rw [hln] at O_q9_8 B_gd
     exact ⟨A9_19, c9_19, _, rfl, B_gd, Rv.own_rdv O_q9_8 (flR_ones _), ⟨(own_caps O_q9_8).1, own_cap0 O_q9_8⟩, fun k h => .inr (own_ob O_q9_8 h).1, K_0⟩
    have dr9_22 : ∀ (A9_11 : Option Addr) (A9_19 : Option Addr) (A9_8 : Option Addr) (c9_11 : Nat) (c9_19 : Nat) (c9_8 : Nat) (g9_1 : Nat) (g9_10 : Nat) (W : World) (a : Act), En 118 a [(0, Value.pointer (some ⟨gd, 0, none⟩)), (1, Value.agg #[Value.int .i64 r.1, Value.int .i64 r.2.1, Value.int .i64 r.2.2.1, Value.int .i64 r.2.2.2]), (3, Value.pointer (some ⟨g1, 0, none⟩)), (5, Value.int .i64 (i : Int)), (6, Value.pointer (some ⟨g7, 0, none⟩)), (7, Value.int .i64 (cmpF r.2.2.1 o.2.2.1)), (11, Value.bool false), (17, Value.bool true), (43, Value.pointer (some ⟨gd, 0, none⟩)), (44, Value.slice (some ⟨g9_1, 0, none⟩) 0 0), (45, Value.pointer (some ⟨gd, 0, none⟩)), (46, Value.pointer (some ⟨gd, 0, none⟩)), (47, Value.pointer (some ⟨gd, 1, none⟩)), (48, Value.slice A L.length c), (49, Value.int .i64 (i : Int)), (50, Value.slice A i c), (51, Value.slice A9_8 (0 + i) c9_8), (52, Value.agg #[Value.int .i64 r.1, Value.int .i64 r.2.1, Value.int .i64 r.2.2.1, Value.int .i64 r.2.2.2]), (53, Value.slice (some ⟨g9_10, 0, none⟩) 1 1), (54, Value.slice A9_11 ((0 + i) + 1) c9_11), (55, Value.pointer (some ⟨gd, 0, none⟩)), (56, Value.pointer (some ⟨gd, 0, none⟩)), (57, Value.pointer (some ⟨gd, 1, none⟩)), (58, Value.slice A L.length c), (59, Value.int .i64 (i : Int)), (60, Value.int .i64 ((i : Int) + 1)), (61, Value.slice AD (L.length - (i + 1)) (c - (i + 1))), (62, Value.slice A9_19 (((0 + i) + 1) + (L.length - (i + 1))) c9_19), (63, Value.pointer (some ⟨gd, 0, none⟩)), (64, Value.pointer (some ⟨gd, 1, none⟩))] → W.heap[gd]? = some (.cells #[Value.int .i64 32, Value.slice A L.length c] 56 (0, 0)) → W.heap[g1]? = some (.cells #[Value.int .i64 r.1, Value.int .i64 r.2.1, Value.int .i64 r.2.2.1, Value.int .i64 r.2.2.2] 61 (0, 0)) → W.heap[g7]? = some (.cells #[Value.int .i64 o.1, Value.int .i64 o.2.1, Value.int .i64 o.2.2.1, Value.int .i64 o.2.2.2] 61 (0, 0)) → W.heap[g9_10]? = some (.cells #[Value.int .i64 r.1, Value.int .i64 r.2.1, Value.int .i64 r.2.2.1, Value.int .i64 r.2.2.2] 61 (0, 0)) → g1 ≠ g9_10 → g1 ≠ gd → g7 ≠ g9_10 → g7 ≠ gd → g9_10 ≠ gd → w.heap.size ≤ g9_10 → ¬ OB A g9_10 → (∀ k, OB A k → ¬ OB A9_19 k) → ¬ OB A9_19 gd → ¬ OB A9_19 g1 → ¬ OB A9_19 g7 → ¬ OB A9_19 g9_10 → (∀ k, OB A9_19 k → (fun k => k = gd) k ∨ w.heap.size ≤ k) → (∀ k, OB A9_19 k → ¬ OB A k) → Rv.RdV W A L.length 4 (flR L) → W.ownsRow w.heap.size 61 4 (.slice A9_19 (((0 + i) + 1) + (L.length - (i + 1))) c9_19) (((0 + i) + 1) + (L.length - (i + 1))) ((([] ++ ((flR L).take (i * 4))) ++ [Value.int .i64 r.1, Value.int .i64 r.2.1, Value.int .i64 r.2.2.1, Value.int .i64 r.2.2.2]) ++ ((flR L).drop ((i + 1) * 4))) → Kp w W (fun k => k = gd) → wpAnyH Tryd.prog .any (regOf Tryd.f18 9) QQ (fun W => W.heap[g1]? = some (.cells #[Value.int .i64 r.1, Value.int .i64 r.2.1, Value.int .i64 r.2.2.1, Value.int .i64 r.2.2.2] 61 (0, 0)) ∧ W.heap[g7]? = some (.cells #[Value.int .i64 o.1, Value.int .i64 o.2.1, Value.int .i64 o.2.2.1, Value.int .i64 o.2.2.2] 61 (0, 0)) ∧ True) 1 #[true, true, true, true, true, true, true, true, true, true, true, true, true, true, true, true, true, true, true, true, true, true, false] a W := by
     intro A9_11 A9_19 A9_8 c9_11 c9_19 c9_8 g9_1 g9_10 w59 a hE B_gd B_g1 B_g7 B_g9_10 n_g1_g9_10 n_g1_gd n_g7_g9_10 n_g7_gd n_g9_10_gd z_0_g9_10 Nb_L_g9_10 NN_L_q9_8 Nb_q9_8_gd Nb_q9_8_g1 Nb_q9_8_g7 Nb_q9_8_g9_10 Z_0_q9_8 NN_q9_8_L O_L O_q9_8 K_0
     refine d_all (rs := [22]) (by kernel_rfl) rfl ?_
     refine all_cons (d_lit (listed' := #[true, true, true, true, true, true, true, true, true, true, true, true, true, true, true, true, true, true, true, true, true, true, true]) rfl ?_) ?_
     ·
      refine (s_store (off := 1) (k := 1) (cs' := #[Value.int .i64 32, Value.slice A9_19 (((0 + i) + 1) + (L.length - (i + 1))) c9_19]) p18_9_22 hE wn_none tS22 rfl rfl rfl rfl B_gd (Nat.le_of_ble_eq_true rfl) rfl ?_)
      intro w60 B_gd' hk
      replace B_g1 := kp_blk B_g1 hk n_g1_gd
      replace B_g7 := kp_blk B_g7 hk n_g7_gd
      replace B_g9_10 := kp_blk B_g9_10 hk n_g9_10_gd
      replace O_L := Rv.rdv_keep O_L hk (fun k hk2 h2 => Nb_L_gd (by rw [show k = gd from h2] at hk2; exact hk2))
      replace O_q9_8 := own_keep O_q9_8 hk (fun k hk2 h2 => Nb_q9_8_gd (by rw [show k = gd from h2] at hk2; exact hk2))
      replace K_0 := K_0.then_ hk (fun k h => by rw [show k = gd from h]; exact Or.inl rfl)
      replace B_gd := B_gd'
      clear hk
      refine ⟨⟨B_g1, B_g7, trivial⟩, ?_⟩
      exact dr9_23 A9_11 A9_19 A9_8 c9_11 c9_19 c9_8 g9_1 g9_10 _ a (En.sub hE ⟨rfl, rfl, rfl, rfl, rfl, rfl, rfl, rfl, rfl, rfl, rfl, rfl, rfl, rfl, rfl, rfl, rfl, rfl, rfl, rfl, rfl, rfl, rfl, rfl, rfl, rfl, rfl, rfl, rfl, rfl, trivial⟩) B_gd B_g1 B_g7 B_g9_10 n_g1_g9_10 n_g1_gd n_g7_g9_10 n_g7_gd n_g9_10_gd z_0_g9_10 Nb_L_g9_10 NN_L_q9_8 Nb_q9_8_gd Nb_q9_8_g1 Nb_q9_8_g7 Nb_q9_8_g9_10 Z_0_q9_8 NN_q9_8_L O_L O_q9_8 K_0
     exact all_nil
    have dr9_21 : ∀ (A9_11 : Option Addr) (A9_8 : Option Addr) (c9_11 : Nat) (c9_8 : Nat) (g9_1 : Nat) (g9_10 : Nat) (W : World) (a : Act), En 118 a [(0, Value.pointer (some ⟨gd, 0, none⟩)), (1, Value.agg #[Value.int .i64 r.1, Value.int .i64 r.2.1, Value.int .i64 r.2.2.1, Value.int .i64 r.2.2.2]), (3, Value.pointer (some ⟨g1, 0, none⟩)), (5, Value.int .i64 (i : Int)), (6, Value.pointer (some ⟨g7, 0, none⟩)), (7, Value.int .i64 (cmpF r.2.2.1 o.2.2.1)), (11, Value.bool false), (17, Value.bool true), (43, Value.pointer (some ⟨gd, 0, none⟩)), (44, Value.slice (some ⟨g9_1, 0, none⟩) 0 0), (45, Value.pointer (some ⟨gd, 0, none⟩)), (46, Value.pointer (some ⟨gd, 0, none⟩)), (47, Value.pointer (some ⟨gd, 1, none⟩)), (48, Value.slice A L.length c), (49, Value.int .i64 (i : Int)), (50, Value.slice A i c), (51, Value.slice A9_8 (0 + i) c9_8), (52, Value.agg #[Value.int .i64 r.1, Value.int .i64 r.2.1, Value.int .i64 r.2.2.1, Value.int .i64 r.2.2.2]), (53, Value.slice (some ⟨g9_10, 0, none⟩) 1 1), (54, Value.slice A9_11 ((0 + i) + 1) c9_11), (55, Value.pointer (some ⟨gd, 0, none⟩)), (56, Value.pointer (some ⟨gd, 0, none⟩)), (57, Value.pointer (some ⟨gd, 1, none⟩)), (58, Value.slice A L.length c), (59, Value.int .i64 (i : Int)), (60, Value.int .i64 ((i : Int) + 1)), (61, Value.slice AD (L.length - (i + 1)) (c - (i + 1)))] → W.heap[gd]? = some (.cells #[Value.int .i64 32, Value.slice A L.length c] 56 (0, 0)) → W.heap[g1]? = some (.cells #[Value.int .i64 r.1, Value.int .i64 r.2.1, Value.int .i64 r.2.2.1, Value.int .i64 r.2.2.2] 61 (0, 0)) → W.heap[g7]? = some (.cells #[Value.int .i64 o.1, Value.int .i64 o.2.1, Value.int .i64 o.2.2.1, Value.int .i64 o.2.2.2] 61 (0, 0)) → W.heap[g9_10]? = some (.cells #[Value.int .i64 r.1, Value.int .i64 r.2.1, Value.int .i64 r.2.2.1, Value.int .i64 r.2.2.2] 61 (0, 0)) → g1 ≠ g9_10 → g1 ≠ gd → g7 ≠ g9_10 → g7 ≠ gd → g9_10 ≠ gd → w.heap.size ≤ g9_10 → ¬ OB A g9_10 → (∀ k, OB A k → ¬ OB A9_11 k) → ¬ OB A9_11 gd → ¬ OB A9_11 g1 → ¬ OB A9_11 g7 → ¬ OB A9_11 g9_10 → (∀ k, OB A9_11 k → (fun k => k = gd) k ∨ w.heap.size ≤ k) → (∀ k, OB A9_11 k → ¬ OB A k) → Rv.RdV W A L.length 4 (flR L) → W.ownsRow w.heap.size 61 4 (.slice A9_11 ((0 + i) + 1) c9_11) ((0 + i) + 1) (([] ++ ((flR L).take (i * 4))) ++ [Value.int .i64 r.1, Value.int .i64 r.2.1, Value.int .i64 r.2.2.1, Value.int .i64 r.2.2.2]) → Kp w W (fun k => k = gd) → wpAnyH Tryd.prog .any (regOf Tryd.f18 9) QQ (fun W => W.heap[g1]? = some (.cells #[Value.int .i64 r.1, Value.int .i64 r.2.1, Value.int .i64 r.2.2.1, Value.int .i64 r.2.2.2] 61 (0, 0)) ∧ W.heap[g7]? = some (.cells #[Value.int .i64 o.1, Value.int .i64 o.2.1, Value.int .i64 o.2.2.1, Value.int .i64 o.2.2.2] 61 (0, 0)) ∧ True) 4 #[true, true, true, true, true, true, true, true, true, true, true, true, true, true, true, true, true, true, true, false, false, false, false] a W := by
     intro A9_11 A9_8 c9_11 c9_8 g9_1 g9_10 w61 a hE B_gd B_g1 B_g7 B_g9_10 n_g1_g9_10 n_g1_gd n_g7_g9_10 n_g7_gd n_g9_10_gd z_0_g9_10 Nb_L_g9_10 NN_L_q9_8 Nb_q9_8_gd Nb_q9_8_g1 Nb_q9_8_g7 Nb_q9_8_g9_10 Z_0_q9_8 NN_q9_8_L O_L O_q9_8 K_0
     refine d_all (rs := [19]) (by kernel_rfl) rfl ?_
     refine all_cons (d_lit (listed' := #[true, true, true, true, true, true, true, true, true, true, true, true, true, true, true, true, true, true, true, true, false, false, false]) rfl ?_) ?_
     ·
      refine (Rv.s_appendV (s := 4) (xs := (([] ++ ((flR L).take (i * 4))) ++ [Value.int .i64 r.1, Value.int .i64 r.2.1, Value.int .i64 r.2.2.1, Value.int .i64 r.2.2.2])) p18_9_19 hE wn_none rfl Tryd.underlying22 eD61 (by decide) rfl O_q9_8 rfl (Rv.rdv_drop O_L (by omega) hcA.1 rfl hAD) (by omega) (by omega) K_0.kept.1 ?_ (drop_cap hcA.2 hAD))
      clear hE a; intro A9_19 c9_19 w62 O_q9_8' hk hat a hE
      have Nb_q9_8_gd' := grow_n Nb_q9_8_gd (blk_lt B_gd) hat
      have Nb_q9_8_g1' := grow_n Nb_q9_8_g1 (blk_lt B_g1) hat
      have Nb_q9_8_g7' := grow_n Nb_q9_8_g7 (blk_lt B_g7) hat
      have Nb_q9_8_g9_10' := grow_n Nb_q9_8_g9_10 (blk_lt B_g9_10) hat
      have NN_L_q9_8' : ∀ k, OB A k → ¬ OB A9_19 k := fun k h h2 => (hat k h2).elim (NN_L_q9_8 k h) (fun h3 => by have := (Rv.rdv_ob O_L h).2; omega)
      have Z_0_q9_8' := grow_z Z_0_q9_8 K_0.kept.1 hat
      replace B_gd := kp_blk B_gd hk Nb_q9_8_gd
      replace B_g1 := kp_blk B_g1 hk Nb_q9_8_g1
      replace B_g7 := kp_blk B_g7 hk Nb_q9_8_g7
      replace B_g9_10 := kp_blk B_g9_10 hk Nb_q9_8_g9_10
      replace O_L := Rv.rdv_keep O_L hk NN_L_q9_8
      replace K_0 := K_0.then_ hk Z_0_q9_8
      replace Nb_q9_8_gd := Nb_q9_8_gd'
      replace Nb_q9_8_g1 := Nb_q9_8_g1'
      replace Nb_q9_8_g7 := Nb_q9_8_g7'
      replace Nb_q9_8_g9_10 := Nb_q9_8_g9_10'
      replace NN_L_q9_8 := NN_L_q9_8'
      replace NN_q9_8_L : ∀ k, OB A9_19 k → ¬ OB A k := fun k h h2 => NN_L_q9_8 k h2 h
      replace Z_0_q9_8 := Z_0_q9_8'
      replace O_q9_8 := O_q9_8'
      try clear O_q9_8'
      clear hk hat
      refine ⟨⟨B_g1, B_g7, trivial⟩, ?_⟩
      refine Rv.dq (listed' := #[true, true, true, true, true, true, true, true, true, true, true, true, true, true, true, true, true, true, true, true, true, false, false]) (v := Value.pointer (some ⟨gd, 0, none⟩)) p18_9_20 ns18_9 hE wn_none ⟨B_g1, B_g7, trivial⟩ (fun W hS => (st_nil rfl)) ?_ (fun c a w h => hQ c a _ _ w h); clear hE a; intro a hE
      refine Rv.dq (listed' := #[true, true, true, true, true, true, true, true, true, true, true, true, true, true, true, true, true, true, true, true, true, true, false]) (v := Value.pointer (some ⟨gd, 1, none⟩)) p18_9_21 ns18_9 hE wn_none ⟨B_g1, B_g7, trivial⟩ (fun W hS => (st_fieldAddr Tryd.underlying56 rfl tS22 rfl rfl)) ?_ (fun c a w h => hQ c a _ _ w h); clear hE a; intro a hE
      exact dr9_22 A9_11 A9_19 A9_8 c9_11 c9_19 c9_8 g9_1 g9_10 _ a (En.sub hE ⟨rfl, rfl, rfl, rfl, rfl, rfl, rfl, rfl, rfl, rfl, rfl, rfl, rfl, rfl, rfl, rfl, rfl, rfl, rfl, rfl, rfl, rfl, rfl, rfl, rfl, rfl, rfl, rfl, rfl, rfl, trivial⟩) B_gd B_g1 B_g7 B_g9_10 n_g1_g9_10 n_g1_gd n_g7_g9_10 n_g7_gd n_g9_10_gd z_0_g9_10 Nb_L_g9_10 NN_L_q9_8 Nb_q9_8_gd Nb_q9_8_g1 Nb_q9_8_g7 Nb_q9_8_g9_10 Z_0_q9_8 NN_q9_8_L O_L O_q9_8 K_0
     exact all_nil
    have dr9_20 : ∀ (A9_8 : Option Addr) (c9_8 : Nat) (g9_1 : Nat) (g9_10 : Nat) (W : World) (a : Act), En 118 a [(0, Value.pointer (some ⟨gd, 0, none⟩)), (1, Value.agg #[Value.int .i64 r.1, Value.int .i64 r.2.1, Value.int .i64 r.2.2.1, Value.int .i64 r.2.2.2]), (3, Value.pointer (some ⟨g1, 0, none⟩)), (5, Value.int .i64 (i : Int)), (6, Value.pointer (some ⟨g7, 0, none⟩)), (7, Value.int .i64 (cmpF r.2.2.1 o.2.2.1)), (11, Value.bool false), (17, Value.bool true), (43, Value.pointer (some ⟨gd, 0, none⟩)), (44, Value.slice (some ⟨g9_1, 0, none⟩) 0 0), (45, Value.pointer (some ⟨gd, 0, none⟩)), (46, Value.pointer (some ⟨gd, 0, none⟩)), (47, Value.pointer (some ⟨gd, 1, none⟩)), (48, Value.slice A L.length c), (49, Value.int .i64 (i : Int)), (50, Value.slice A i c), (51, Value.slice A9_8 (0 + i) c9_8), (52, Value.agg #[Value.int .i64 r.1, Value.int .i64 r.2.1, Value.int .i64 r.2.2.1, Value.int .i64 r.2.2.2]), (53, Value.slice (some ⟨g9_10, 0, none⟩) 1 1), (55, Value.pointer (some ⟨gd, 0, none⟩)), (56, Value.pointer (some ⟨gd, 0, none⟩)), (57, Value.pointer (some ⟨gd, 1, none⟩)), (58, Value.slice A L.length c), (59, Value.int .i64 (i : Int)), (60, Value.int .i64 ((i : Int) + 1)), (61, Value.slice AD (L.length - (i + 1)) (c - (i + 1)))] → W.heap[gd]? = some (.cells #[Value.int .i64 32, Value.slice A L.length c] 56 (0, 0)) → W.heap[g1]? = some (.cells #[Value.int .i64 r.1, Value.int .i64 r.2.1, Value.int .i64 r.2.2.1, Value.int .i64 r.2.2.2] 61 (0, 0)) → W.heap[g7]? = some (.cells #[Value.int .i64 o.1, Value.int .i64 o.2.1, Value.int .i64 o.2.2.1, Value.int .i64 o.2.2.2] 61 (0, 0)) → W.heap[g9_10]? = some (.cells #[Value.int .i64 r.1, Value.int .i64 r.2.1, Value.int .i64 r.2.2.1, Value.int .i64 r.2.2.2] 61 (0, 0)) → g1 ≠ g9_10 → g1 ≠ gd → g7 ≠ g9_10 → g7 ≠ gd → g9_10 ≠ gd → w.heap.size ≤ g9_10 → ¬ OB A g9_10 → (∀ k, OB A k → ¬ OB A9_8 k) → ¬ OB A9_8 gd → ¬ OB A9_8 g1 → ¬ OB A9_8 g7 → ¬ OB A9_8 g9_10 → (∀ k, OB A9_8 k → (fun k => k = gd) k ∨ w.heap.size ≤ k) → (∀ k, OB A9_8 k → ¬ OB A k) → Rv.RdV W A L.length 4 (flR L) → W.ownsRow w.heap.size 61 4 (.slice A9_8 (0 + i) c9_8) (0 + i) ([] ++ ((flR L).take (i * 4))) → Kp w W (fun k => k = gd) → wpAnyH Tryd.prog .any (regOf Tryd.f18 9) QQ (fun W => W.heap[g1]? = some (.cells #[Value.int .i64 r.1, Value.int .i64 r.2.1, Value.int .i64 r.2.2.1, Value.int .i64 r.2.2.2] 61 (0, 0)) ∧ W.heap[g7]? = some (.cells #[Value.int .i64 o.1, Value.int .i64 o.2.1, Value.int .i64 o.2.2.1, Value.int .i64 o.2.2.2] 61 (0, 0)) ∧ True) 5 #[true, true, true, true, true, true, true, true, true, true, true, false, true, true, true, true, true, true, true, false, false, false, false] a W := by
     intro A9_8 c9_8 g9_1 g9_10 w63 a hE B_gd B_g1 B_g7 B_g9_10 n_g1_g9_10 n_g1_gd n_g7_g9_10 n_g7_gd n_g9_10_gd z_0_g9_10 Nb_L_g9_10 NN_L_q9_8 Nb_q9_8_gd Nb_q9_8_g1 Nb_q9_8_g7 Nb_q9_8_g9_10 Z_0_q9_8 NN_q9_8_L O_L O_q9_8 K_0
     refine d_all (rs := [11]) (by kernel_rfl) rfl ?_
     refine all_cons (d_lit (listed' := #[true, true, true, true, true, true, true, true, true, true, true, true, true, true, true, true, true, true, true, false, false, false, false]) rfl ?_) ?_
     ·
      refine (s_append (s := 4) (xs := ([] ++ ((flR L).take (i * 4)))) (news := [Value.int .i64 r.1, Value.int .i64 r.2.1, Value.int .i64 r.2.2.1, Value.int .i64 r.2.2.2]) p18_9_11 hE wn_none rfl Tryd.underlying22 eD61 (by decide) rfl O_q9_8 rfl rfl (newsB B_g9_10 rfl) (ones rfl) (by omega) (by omega) K_0.kept.1 ?_)
      clear hE a; intro A9_11 c9_11 w64 O_q9_8' hk hat a hE
      have Nb_q9_8_gd' := grow_n Nb_q9_8_gd (blk_lt B_gd) hat
      have Nb_q9_8_g1' := grow_n Nb_q9_8_g1 (blk_lt B_g1) hat
      have Nb_q9_8_g7' := grow_n Nb_q9_8_g7 (blk_lt B_g7) hat
      have Nb_q9_8_g9_10' := grow_n Nb_q9_8_g9_10 (blk_lt B_g9_10) hat
      have NN_L_q9_8' : ∀ k, OB A k → ¬ OB A9_11 k := fun k h h2 => (hat k h2).elim (NN_L_q9_8 k h) (fun h3 => by have := (Rv.rdv_ob O_L h).2; omega)
      have Z_0_q9_8' := grow_z Z_0_q9_8 K_0.kept.1 hat
      replace B_gd := kp_blk B_gd hk Nb_q9_8_gd
      replace B_g1 := kp_blk B_g1 hk Nb_q9_8_g1
      replace B_g7 := kp_blk B_g7 hk Nb_q9_8_g7
      replace B_g9_10 := kp_blk B_g9_10 hk Nb_q9_8_g9_10
      replace O_L := Rv.rdv_keep O_L hk NN_L_q9_8
      replace K_0 := K_0.then_ hk Z_0_q9_8
      replace Nb_q9_8_gd := Nb_q9_8_gd'
      replace Nb_q9_8_g1 := Nb_q9_8_g1'
      replace Nb_q9_8_g7 := Nb_q9_8_g7'
      replace Nb_q9_8_g9_10 := Nb_q9_8_g9_10'
      replace NN_L_q9_8 := NN_L_q9_8'
      replace NN_q9_8_L : ∀ k, OB A9_11 k → ¬ OB A k := fun k h h2 => NN_L_q9_8 k h2 h
      replace Z_0_q9_8 := Z_0_q9_8'
      replace O_q9_8 := O_q9_8'
      try clear O_q9_8'
      clear hk hat
      refine ⟨⟨B_g1, B_g7, trivial⟩, ?_⟩
      exact dr9_21 A9_11 A9_8 c9_11 c9_8 g9_1 g9_10 _ a (En.sub hE ⟨rfl, rfl, rfl, rfl, rfl, rfl, rfl, rfl, rfl, rfl, rfl, rfl, rfl, rfl, rfl, rfl, rfl, rfl, rfl, rfl, rfl, rfl, rfl, rfl, rfl, rfl, rfl, trivial⟩) B_gd B_g1 B_g7 B_g9_10 n_g1_g9_10 n_g1_gd n_g7_g9_10 n_g7_gd n_g9_10_gd z_0_g9_10 Nb_L_g9_10 NN_L_q9_8 Nb_q9_8_gd Nb_q9_8_g1 Nb_q9_8_g7 Nb_q9_8_g9_10 Z_0_q9_8 NN_q9_8_L O_L O_q9_8 K_0
     exact all_nil
    have dr9_19 : ∀ (g9_1 : Nat) (g9_10 : Nat) (W : World) (a : Act), En 118 a [(0, Value.pointer (some ⟨gd, 0, none⟩)), (1, Value.agg #[Value.int .i64 r.1, Value.int .i64 r.2.1, Value.int .i64 r.2.2.1, Value.int .i64 r.2.2.2]), (3, Value.pointer (some ⟨g1, 0, none⟩)), (5, Value.int .i64 (i : Int)), (6, Value.pointer (some ⟨g7, 0, none⟩)), (7, Value.int .i64 (cmpF r.2.2.1 o.2.2.1)), (11, Value.bool false), (17, Value.bool true), (43, Value.pointer (some ⟨gd, 0, none⟩)), (44, Value.slice (some ⟨g9_1, 0, none⟩) 0 0), (45, Value.pointer (some ⟨gd, 0, none⟩)), (46, Value.pointer (some ⟨gd, 0, none⟩)), (47, Value.pointer (some ⟨gd, 1, none⟩)), (48, Value.slice A L.length c), (49, Value.int .i64 (i : Int)), (50, Value.slice A i c), (52, Value.agg #[Value.int .i64 r.1, Value.int .i64 r.2.1, Value.int .i64 r.2.2.1, Value.int .i64 r.2.2.2]), (53, Value.slice (some ⟨g9_10, 0, none⟩) 1 1), (55, Value.pointer (some ⟨gd, 0, none⟩)), (56, Value.pointer (some ⟨gd, 0, none⟩)), (57, Value.pointer (some ⟨gd, 1, none⟩)), (58, Value.slice A L.length c), (59, Value.int .i64 (i : Int)), (60, Value.int .i64 ((i : Int) + 1)), (61, Value.slice AD (L.length - (i + 1)) (c - (i + 1)))] → W.heap[gd]? = some (.cells #[Value.int .i64 32, Value.slice A L.length c] 56 (0, 0)) → W.heap[g1]? = some (.cells #[Value.int .i64 r.1, Value.int .i64 r.2.1, Value.int .i64 r.2.2.1, Value.int .i64 r.2.2.2] 61 (0, 0)) → W.heap[g7]? = some (.cells #[Value.int .i64 o.1, Value.int .i64 o.2.1, Value.int .i64 o.2.2.1, Value.int .i64 o.2.2.2] 61 (0, 0)) → W.heap[g9_1]? = some (.cells #[] 61 (0, 0)) → W.heap[g9_10]? = some (.cells #[Value.int .i64 r.1, Value.int .i64 r.2.1, Value.int .i64 r.2.2.1, Value.int .i64 r.2.2.2] 61 (0, 0)) → g1 ≠ g9_1 → g1 ≠ g9_10 → g1 ≠ gd → g7 ≠ g9_1 → g7 ≠ g9_10 → g7 ≠ gd → g9_1 ≠ g9_10 → g9_1 ≠ gd → g9_10 ≠ gd → w.heap.size ≤ g9_1 → w.heap.size ≤ g9_10 → ¬ OB A g9_1 → ¬ OB A g9_10 → Rv.RdV W A L.length 4 (flR L) → Kp w W (fun k => k = gd) → wpAnyH Tryd.prog .any (regOf Tryd.f18 9) QQ (fun W => W.heap[g1]? = some (.cells #[Value.int .i64 r.1, Value.int .i64 r.2.1, Value.int .i64 r.2.2.1, Value.int .i64 r.2.2.2] 61 (0, 0)) ∧ W.heap[g7]? = some (.cells #[Value.int .i64 o.1, Value.int .i64 o.2.1, Value.int .i64 o.2.2.1, Value.int .i64 o.2.2.2] 61 (0, 0)) ∧ True) 6 #[true, true, true, true, true, true, true, true, false, true, true, false, true, true, true, true, true, true, true, false, false, false, false] a W := by
     intro g9_1 g9_10 w65 a hE B_gd B_g1 B_g7 B_g9_1 B_g9_10 n_g1_g9_1 n_g1_g9_10 n_g1_gd n_g7_g9_1 n_g7_g9_10 n_g7_gd n_g9_1_g9_10 n_g9_1_gd n_g9_10_gd z_0_g9_1 z_0_g9_10 Nb_L_g9_1 Nb_L_g9_10 O_L K_0
     refine d_all (rs := [8]) (by kernel_rfl) rfl ?_
     refine all_cons (d_lit (listed' := #[true, true, true, true, true, true, true, true, true, true, true, false, true, true, true, true, true, true, true, false, false, false, false]) rfl ?_) ?_
     ·
      have O_q9_8 := own_blk0 (s := 4) B_g9_1 (show w.heap.size ≤ g9_1 from z_0_g9_1)
      have Nb_q9_8_gd : ¬ OB (some ⟨g9_1, 0, none⟩) gd := fun h => by have h := ob_blk.1 h; exact n_g9_1_gd h
      have Nb_q9_8_g1 : ¬ OB (some ⟨g9_1, 0, none⟩) g1 := fun h => by have h := ob_blk.1 h; exact (Ne.symm n_g1_g9_1) h
      have Nb_q9_8_g7 : ¬ OB (some ⟨g9_1, 0, none⟩) g7 := fun h => by have h := ob_blk.1 h; exact (Ne.symm n_g7_g9_1) h
      have Nb_q9_8_g9_10 : ¬ OB (some ⟨g9_1, 0, none⟩) g9_10 := fun h => by have h := ob_blk.1 h; exact n_g9_1_g9_10 h
      have Z_0_q9_8 : ∀ k, OB (some ⟨g9_1, 0, none⟩) k → (fun k => k = gd) k ∨ w.heap.size ≤ k := fun k h => by have h := ob_blk.1 h; subst h; exact Or.inr z_0_g9_1
      have NN_q9_8_L : ∀ k, OB (some ⟨g9_1, 0, none⟩) k → ¬ OB A k := fun k h h2 => by have h := ob_blk.1 h; subst h; exact Nb_L_g9_1 h2
      have NN_L_q9_8 : ∀ k, OB A k → ¬ OB (some ⟨g9_1, 0, none⟩) k := fun k h h2 => NN_q9_8_L k h2 h
      refine (Rv.s_appendV (s := 4) (xs := []) p18_9_8 hE wn_none rfl Tryd.underlying22 eD61 (by decide) rfl O_q9_8 rfl (Rv.rdv_take O_L (by omega)) (by omega) (by omega) K_0.kept.1 ?_ hcA.2)
      clear hE a; intro A9_8 c9_8 w66 O_q9_8' hk hat a hE
      have Nb_q9_8_gd' := grow_n Nb_q9_8_gd (blk_lt B_gd) hat
      have Nb_q9_8_g1' := grow_n Nb_q9_8_g1 (blk_lt B_g1) hat
      have Nb_q9_8_g7' := grow_n Nb_q9_8_g7 (blk_lt B_g7) hat
      have Nb_q9_8_g9_10' := grow_n Nb_q9_8_g9_10 (blk_lt B_g9_10) hat
      have NN_L_q9_8' : ∀ k, OB A k → ¬ OB A9_8 k := fun k h h2 => (hat k h2).elim (NN_L_q9_8 k h) (fun h3 => by have := (Rv.rdv_ob O_L h).2; omega)
      have Z_0_q9_8' := grow_z Z_0_q9_8 K_0.kept.1 hat
      replace B_gd := kp_blk B_gd hk Nb_q9_8_gd
      replace B_g1 := kp_blk B_g1 hk Nb_q9_8_g1
      replace B_g7 := kp_blk B_g7 hk Nb_q9_8_g7
      replace B_g9_10 := kp_blk B_g9_10 hk Nb_q9_8_g9_10
      replace O_L := Rv.rdv_keep O_L hk NN_L_q9_8
      replace K_0 := K_0.then_ hk Z_0_q9_8
      replace Nb_q9_8_gd := Nb_q9_8_gd'
      replace Nb_q9_8_g1 := Nb_q9_8_g1'
      replace Nb_q9_8_g7 := Nb_q9_8_g7'
      replace Nb_q9_8_g9_10 := Nb_q9_8_g9_10'
      replace NN_L_q9_8 := NN_L_q9_8'
      replace NN_q9_8_L : ∀ k, OB A9_8 k → ¬ OB A k := fun k h h2 => NN_L_q9_8 k h2 h
      replace Z_0_q9_8 := Z_0_q9_8'
      replace O_q9_8 := O_q9_8'
      try clear O_q9_8'
      clear hk hat
      refine ⟨⟨B_g1, B_g7, trivial⟩, ?_⟩
      exact dr9_20 A9_8 c9_8 g9_1 g9_10 _ a (En.sub hE ⟨rfl, rfl, rfl, rfl, rfl, rfl, rfl, rfl, rfl, rfl, rfl, rfl, rfl, rfl, rfl, rfl, rfl, rfl, rfl, rfl, rfl, rfl, rfl, rfl, rfl, rfl, trivial⟩) B_gd B_g1 B_g7 B_g9_10 n_g1_g9_10 n_g1_gd n_g7_g9_10 n_g7_gd n_g9_10_gd z_0_g9_10 Nb_L_g9_10 NN_L_q9_8 Nb_q9_8_gd Nb_q9_8_g1 Nb_q9_8_g7 Nb_q9_8_g9_10 Z_0_q9_8 NN_q9_8_L O_L O_q9_8 K_0
     exact all_nil
    have dr9_18 : ∀ (A9_8 : Option Addr) (c9_8 : Nat) (g9_1 : Nat) (W : World) (a : Act), En 118 a [(0, Value.pointer (some ⟨gd, 0, none⟩)), (1, Value.agg #[Value.int .i64 r.1, Value.int .i64 r.2.1, Value.int .i64 r.2.2.1, Value.int .i64 r.2.2.2]), (3, Value.pointer (some ⟨g1, 0, none⟩)), (5, Value.int .i64 (i : Int)), (6, Value.pointer (some ⟨g7, 0, none⟩)), (7, Value.int .i64 (cmpF r.2.2.1 o.2.2.1)), (11, Value.bool false), (17, Value.bool true), (43, Value.pointer (some ⟨gd, 0, none⟩)), (44, Value.slice (some ⟨g9_1, 0, none⟩) 0 0), (45, Value.pointer (some ⟨gd, 0, none⟩)), (46, Value.pointer (some ⟨gd, 0, none⟩)), (47, Value.pointer (some ⟨gd, 1, none⟩)), (48, Value.slice A L.length c), (49, Value.int .i64 (i : Int)), (50, Value.slice A i c), (51, Value.slice A9_8 (0 + i) c9_8), (52, Value.agg #[Value.int .i64 r.1, Value.int .i64 r.2.1, Value.int .i64 r.2.2.1, Value.int .i64 r.2.2.2]), (55, Value.pointer (some ⟨gd, 0, none⟩)), (56, Value.pointer (some ⟨gd, 0, none⟩)), (57, Value.pointer (some ⟨gd, 1, none⟩)), (58, Value.slice A L.length c), (59, Value.int .i64 (i : Int)), (60, Value.int .i64 ((i : Int) + 1)), (61, Value.slice AD (L.length - (i + 1)) (c - (i + 1)))] → W.heap[gd]? = some (.cells #[Value.int .i64 32, Value.slice A L.length c] 56 (0, 0)) → W.heap[g1]? = some (.cells #[Value.int .i64 r.1, Value.int .i64 r.2.1, Value.int .i64 r.2.2.1, Value.int .i64 r.2.2.2] 61 (0, 0)) → W.heap[g7]? = some (.cells #[Value.int .i64 o.1, Value.int .i64 o.2.1, Value.int .i64 o.2.2.1, Value.int .i64 o.2.2.2] 61 (0, 0)) → g1 ≠ gd → g7 ≠ gd → (∀ k, OB A k → ¬ OB A9_8 k) → ¬ OB A9_8 gd → ¬ OB A9_8 g1 → ¬ OB A9_8 g7 → (∀ k, OB A9_8 k → (fun k => k = gd) k ∨ w.heap.size ≤ k) → (∀ k, OB A9_8 k → ¬ OB A k) → Rv.RdV W A L.length 4 (flR L) → W.ownsRow w.heap.size 61 4 (.slice A9_8 (0 + i) c9_8) (0 + i) ([] ++ ((flR L).take (i * 4))) → Kp w W (fun k => k = gd) → wpAnyH Tryd.prog .any (regOf Tryd.f18 9) QQ (fun W => W.heap[g1]? = some (.cells #[Value.int .i64 r.1, Value.int .i64 r.2.1, Value.int .i64 r.2.2.1, Value.int .i64 r.2.2.2] 61 (0, 0)) ∧ W.heap[g7]? = some (.cells #[Value.int .i64 o.1, Value.int .i64 o.2.1, Value.int .i64 o.2.2.1, Value.int .i64 o.2.2.2] 61 (0, 0)) ∧ True) 6 #[true, true, true, true, true, true, true, true, true, true, false, false, true, true, true, true, true, true, true, false, false, false, false] a W := by
     intro A9_8 c9_8 g9_1 w67 a hE B_gd B_g1 B_g7 n_g1_gd n_g7_gd NN_L_q9_8 Nb_q9_8_gd Nb_q9_8_g1 Nb_q9_8_g7 Z_0_q9_8 NN_q9_8_L O_L O_q9_8 K_0
     refine d_all (rs := [10]) (by kernel_rfl) rfl ?_
     refine all_cons (d_lit (listed' := #[true, true, true, true, true, true, true, true, true, true, true, false, true, true, true, true, true, true, true, false, false, false, false]) rfl ?_) ?_
     ·
      refine (s_row (xs := [(0, Operand.tmp 52)]) (vs := [(0, Value.agg #[Value.int .i64 r.1, Value.int .i64 r.2.1, Value.int .i64 r.2.2.1, Value.int .i64 r.2.2.2])]) (cs := #[Value.int .i64 r.1, Value.int .i64 r.2.1, Value.int .i64 r.2.2.1, Value.int .i64 r.2.2.2]) p18_9_10 hE wn_none rfl Tryd.underlying22 rfl (by kernel_rfl) ?_)
      clear hE a; intro g9_10 w68 z69 B_g9_10 hk a hE
      have n_gd_g9_10 : gd ≠ g9_10 := ne_new B_gd z69
      have n_g1_g9_10 : g1 ≠ g9_10 := ne_new B_g1 z69
      have n_g7_g9_10 : g7 ≠ g9_10 := ne_new B_g7 z69
      have z_0_g9_10 := Nat.le_trans K_0.kept.1 z69
      have Nb_L_g9_10 : ¬ OB A g9_10 := fun h => by have := (Rv.rdv_ob O_L h).2; omega
      have Nb_q9_8_g9_10 : ¬ OB A9_8 g9_10 := fun h => by have := (own_ob O_q9_8 h).2; omega
      replace B_gd := kp_blk B_gd hk (fun h => h)
      replace B_g1 := kp_blk B_g1 hk (fun h => h)
      replace B_g7 := kp_blk B_g7 hk (fun h => h)
      replace O_L := Rv.rdv_keep O_L hk (fun _ _ h => h)
      replace O_q9_8 := own_keep O_q9_8 hk (fun _ _ h => h)
      replace K_0 := K_0.then_ hk (fun _ h => h.elim)
      clear hk
      refine ⟨⟨B_g1, B_g7, trivial⟩, ?_⟩
      have n_g9_10_gd := Ne.symm n_gd_g9_10
      exact dr9_20 A9_8 c9_8 g9_1 g9_10 _ a (En.sub hE ⟨rfl, rfl, rfl, rfl, rfl, rfl, rfl, rfl, rfl, rfl, rfl, rfl, rfl, rfl, rfl, rfl, rfl, rfl, rfl, rfl, rfl, rfl, rfl, rfl, rfl, rfl, trivial⟩) B_gd B_g1 B_g7 B_g9_10 n_g1_g9_10 n_g1_gd n_g7_g9_10 n_g7_gd n_g9_10_gd z_0_g9_10 Nb_L_g9_10 NN_L_q9_8 Nb_q9_8_gd Nb_q9_8_g1 Nb_q9_8_g7 Nb_q9_8_g9_10 Z_0_q9_8 NN_q9_8_L O_L O_q9_8 K_0
     exact all_nil
    have dr9_17 : ∀ (A9_11 : Option Addr) (A9_8 : Option Addr) (c9_11 : Nat) (c9_8 : Nat) (g9_1 : Nat) (g9_10 : Nat) (W : World) (a : Act), En 118 a [(0, Value.pointer (some ⟨gd, 0, none⟩)), (1, Value.agg #[Value.int .i64 r.1, Value.int .i64 r.2.1, Value.int .i64 r.2.2.1, Value.int .i64 r.2.2.2]), (3, Value.pointer (some ⟨g1, 0, none⟩)), (5, Value.int .i64 (i : Int)), (6, Value.pointer (some ⟨g7, 0, none⟩)), (7, Value.int .i64 (cmpF r.2.2.1 o.2.2.1)), (11, Value.bool false), (17, Value.bool true), (43, Value.pointer (some ⟨gd, 0, none⟩)), (44, Value.slice (some ⟨g9_1, 0, none⟩) 0 0), (45, Value.pointer (some ⟨gd, 0, none⟩)), (46, Value.pointer (some ⟨gd, 0, none⟩)), (47, Value.pointer (some ⟨gd, 1, none⟩)), (48, Value.slice A L.length c), (49, Value.int .i64 (i : Int)), (50, Value.slice A i c), (51, Value.slice A9_8 (0 + i) c9_8), (52, Value.agg #[Value.int .i64 r.1, Value.int .i64 r.2.1, Value.int .i64 r.2.2.1, Value.int .i64 r.2.2.2]), (53, Value.slice (some ⟨g9_10, 0, none⟩) 1 1), (54, Value.slice A9_11 ((0 + i) + 1) c9_11), (55, Value.pointer (some ⟨gd, 0, none⟩)), (56, Value.pointer (some ⟨gd, 0, none⟩)), (57, Value.pointer (some ⟨gd, 1, none⟩)), (59, Value.int .i64 (i : Int)), (60, Value.int .i64 ((i : Int) + 1))] → W.heap[gd]? = some (.cells #[Value.int .i64 32, Value.slice A L.length c] 56 (0, 0)) → W.heap[g1]? = some (.cells #[Value.int .i64 r.1, Value.int .i64 r.2.1, Value.int .i64 r.2.2.1, Value.int .i64 r.2.2.2] 61 (0, 0)) → W.heap[g7]? = some (.cells #[Value.int .i64 o.1, Value.int .i64 o.2.1, Value.int .i64 o.2.2.1, Value.int .i64 o.2.2.2] 61 (0, 0)) → W.heap[g9_10]? = some (.cells #[Value.int .i64 r.1, Value.int .i64 r.2.1, Value.int .i64 r.2.2.1, Value.int .i64 r.2.2.2] 61 (0, 0)) → g1 ≠ g9_10 → g1 ≠ gd → g7 ≠ g9_10 → g7 ≠ gd → g9_10 ≠ gd → w.heap.size ≤ g9_10 → ¬ OB A g9_10 → (∀ k, OB A k → ¬ OB A9_11 k) → ¬ OB A9_11 gd → ¬ OB A9_11 g1 → ¬ OB A9_11 g7 → ¬ OB A9_11 g9_10 → (∀ k, OB A9_11 k → (fun k => k = gd) k ∨ w.heap.size ≤ k) → (∀ k, OB A9_11 k → ¬ OB A k) → Rv.RdV W A L.length 4 (flR L) → W.ownsRow w.heap.size 61 4 (.slice A9_11 ((0 + i) + 1) c9_11) ((0 + i) + 1) (([] ++ ((flR L).take (i * 4))) ++ [Value.int .i64 r.1, Value.int .i64 r.2.1, Value.int .i64 r.2.2.1, Value.int .i64 r.2.2.2]) → Kp w W (fun k => k = gd) → wpAnyH Tryd.prog .any (regOf Tryd.f18 9) QQ (fun W => W.heap[g1]? = some (.cells #[Value.int .i64 r.1, Value.int .i64 r.2.1, Value.int .i64 r.2.2.1, Value.int .i64 r.2.2.2] 61 (0, 0)) ∧ W.heap[g7]? = some (.cells #[Value.int .i64 o.1, Value.int .i64 o.2.1, Value.int .i64 o.2.2.1, Value.int .i64 o.2.2.2] 61 (0, 0)) ∧ True) 6 #[true, true, true, true, true, true, true, true, true, true, true, true, true, true, true, false, true, true, false, false, false, false, false] a W := by
     intro A9_11 A9_8 c9_11 c9_8 g9_1 g9_10 w70 a hE B_gd B_g1 B_g7 B_g9_10 n_g1_g9_10 n_g1_gd n_g7_g9_10 n_g7_gd n_g9_10_gd z_0_g9_10 Nb_L_g9_10 NN_L_q9_8 Nb_q9_8_gd Nb_q9_8_g1 Nb_q9_8_g7 Nb_q9_8_g9_10 Z_0_q9_8 NN_q9_8_L O_L O_q9_8 K_0
     refine d_all (rs := [15]) (by kernel_rfl) rfl ?_
     refine all_cons (d_lit (listed' := #[true, true, true, true, true, true, true, true, true, true, true, true, true, true, true, true, true, true, false, false, false, false, false]) rfl ?_) ?_
     ·
      refine (s_still p18_9_15 hE wn_none rfl (st_load1 tA22 rfl ((blk_cell B_gd 1).trans rfl)) ?_); clear hE a; intro a hE
      refine ⟨⟨B_g1, B_g7, trivial⟩, ?_⟩
      refine Rv.dq (listed' := #[true, true, true, true, true, true, true, true, true, true, true, true, true, true, true, true, true, true, true, false, false, false, false]) (v := Value.slice AD (L.length - (i + 1)) (c - (i + 1))) p18_9_18 ns18_9 hE wn_none ⟨B_g1, B_g7, trivial⟩ (fun W hS => (st_sliceL (lo := (i + 1)) (A' := AD) Tryd.underlying22 tS61 rfl rfl (by omega) rfl rfl hAD)) ?_ (fun c a w h => hQ c a _ _ w h); clear hE a; intro a hE
      exact dr9_21 A9_11 A9_8 c9_11 c9_8 g9_1 g9_10 _ a (En.sub hE ⟨rfl, rfl, rfl, rfl, rfl, rfl, rfl, rfl, rfl, rfl, rfl, rfl, rfl, rfl, rfl, rfl, rfl, rfl, rfl, rfl, rfl, rfl, rfl, rfl, rfl, rfl, rfl, trivial⟩) B_gd B_g1 B_g7 B_g9_10 n_g1_g9_10 n_g1_gd n_g7_g9_10 n_g7_gd n_g9_10_gd z_0_g9_10 Nb_L_g9_10 NN_L_q9_8 Nb_q9_8_gd Nb_q9_8_g1 Nb_q9_8_g7 Nb_q9_8_g9_10 Z_0_q9_8 NN_q9_8_L O_L O_q9_8 K_0
     exact all_nil
    have dr9_16 : ∀ (g9_1 : Nat) (W : World) (a : Act), En 118 a [(0, Value.pointer (some ⟨gd, 0, none⟩)), (1, Value.agg #[Value.int .i64 r.1, Value.int .i64 r.2.1, Value.int .i64 r.2.2.1, Value.int .i64 r.2.2.2]), (3, Value.pointer (some ⟨g1, 0, none⟩)), (5, Value.int .i64 (i : Int)), (6, Value.pointer (some ⟨g7, 0, none⟩)), (7, Value.int .i64 (cmpF r.2.2.1 o.2.2.1)), (11, Value.bool false), (17, Value.bool true), (43, Value.pointer (some ⟨gd, 0, none⟩)), (44, Value.slice (some ⟨g9_1, 0, none⟩) 0 0), (45, Value.pointer (some ⟨gd, 0, none⟩)), (46, Value.pointer (some ⟨gd, 0, none⟩)), (47, Value.pointer (some ⟨gd, 1, none⟩)), (48, Value.slice A L.length c), (49, Value.int .i64 (i : Int)), (50, Value.slice A i c), (52, Value.agg #[Value.int .i64 r.1, Value.int .i64 r.2.1, Value.int .i64 r.2.2.1, Value.int .i64 r.2.2.2]), (55, Value.pointer (some ⟨gd, 0, none⟩)), (56, Value.pointer (some ⟨gd, 0, none⟩)), (57, Value.pointer (some ⟨gd, 1, none⟩)), (58, Value.slice A L.length c), (59, Value.int .i64 (i : Int)), (60, Value.int .i64 ((i : Int) + 1)), (61, Value.slice AD (L.length - (i + 1)) (c - (i + 1)))] → W.heap[gd]? = some (.cells #[Value.int .i64 32, Value.slice A L.length c] 56 (0, 0)) → W.heap[g1]? = some (.cells #[Value.int .i64 r.1, Value.int .i64 r.2.1, Value.int .i64 r.2.2.1, Value.int .i64 r.2.2.2] 61 (0, 0)) → W.heap[g7]? = some (.cells #[Value.int .i64 o.1, Value.int .i64 o.2.1, Value.int .i64 o.2.2.1, Value.int .i64 o.2.2.2] 61 (0, 0)) → W.heap[g9_1]? = some (.cells #[] 61 (0, 0)) → g1 ≠ g9_1 → g1 ≠ gd → g7 ≠ g9_1 → g7 ≠ gd → g9_1 ≠ gd → w.heap.size ≤ g9_1 → ¬ OB A g9_1 → Rv.RdV W A L.length 4 (flR L) → Kp w W (fun k => k = gd) → wpAnyH Tryd.prog .any (regOf Tryd.f18 9) QQ (fun W => W.heap[g1]? = some (.cells #[Value.int .i64 r.1, Value.int .i64 r.2.1, Value.int .i64 r.2.2.1, Value.int .i64 r.2.2.2] 61 (0, 0)) ∧ W.heap[g7]? = some (.cells #[Value.int .i64 o.1, Value.int .i64 o.2.1, Value.int .i64 o.2.2.1, Value.int .i64 o.2.2.2] 61 (0, 0)) ∧ True) 7 #[true, true, true, true, true, true, true, true, false, true, false, false, true, true, true, true, true, true, true, false, false, false, false] a W := by
     intro g9_1 w71 a hE B_gd B_g1 B_g7 B_g9_1 n_g1_g9_1 n_g1_gd n_g7_g9_1 n_g7_gd n_g9_1_gd z_0_g9_1 Nb_L_g9_1 O_L K_0
     refine d_all (rs := [8, 10]) (by kernel_rfl) rfl ?_
     refine all_cons (d_lit (listed' := #[true, true, true, true, true, true, true, true, true, true, false, false, true, true, true, true, true, true, true, false, false, false, false]) rfl ?_) ?_
     ·
      have O_q9_8 := own_blk0 (s := 4) B_g9_1 (show w.heap.size ≤ g9_1 from z_0_g9_1)
      have Nb_q9_8_gd : ¬ OB (some ⟨g9_1, 0, none⟩) gd := fun h => by have h := ob_blk.1 h; exact n_g9_1_gd h
      have Nb_q9_8_g1 : ¬ OB (some ⟨g9_1, 0, none⟩) g1 := fun h => by have h := ob_blk.1 h; exact (Ne.symm n_g1_g9_1) h
      have Nb_q9_8_g7 : ¬ OB (some ⟨g9_1, 0, none⟩) g7 := fun h => by have h := ob_blk.1 h; exact (Ne.symm n_g7_g9_1) h
      have Z_0_q9_8 : ∀ k, OB (some ⟨g9_1, 0, none⟩) k → (fun k => k = gd) k ∨ w.heap.size ≤ k := fun k h => by have h := ob_blk.1 h; subst h; exact Or.inr z_0_g9_1
      have NN_q9_8_L : ∀ k, OB (some ⟨g9_1, 0, none⟩) k → ¬ OB A k := fun k h h2 => by have h := ob_blk.1 h; subst h; exact Nb_L_g9_1 h2
      have NN_L_q9_8 : ∀ k, OB A k → ¬ OB (some ⟨g9_1, 0, none⟩) k := fun k h h2 => NN_q9_8_L k h2 h
      refine (Rv.s_appendV (s := 4) (xs := []) p18_9_8 hE wn_none rfl Tryd.underlying22 eD61 (by decide) rfl O_q9_8 rfl (Rv.rdv_take O_L (by omega)) (by omega) (by omega) K_0.kept.1 ?_ hcA.2)
      clear hE a; intro A9_8 c9_8 w72 O_q9_8' hk hat a hE
      have Nb_q9_8_gd' := grow_n Nb_q9_8_gd (blk_lt B_gd) hat
      have Nb_q9_8_g1' := grow_n Nb_q9_8_g1 (blk_lt B_g1) hat
      have Nb_q9_8_g7' := grow_n Nb_q9_8_g7 (blk_lt B_g7) hat
      have NN_L_q9_8' : ∀ k, OB A k → ¬ OB A9_8 k := fun k h h2 => (hat k h2).elim (NN_L_q9_8 k h) (fun h3 => by have := (Rv.rdv_ob O_L h).2; omega)
      have Z_0_q9_8' := grow_z Z_0_q9_8 K_0.kept.1 hat
      replace B_gd := kp_blk B_gd hk Nb_q9_8_gd
      replace B_g1 := kp_blk B_g1 hk Nb_q9_8_g1
      replace B_g7 := kp_blk B_g7 hk Nb_q9_8_g7
      replace O_L := Rv.rdv_keep O_L hk NN_L_q9_8
      replace K_0 := K_0.then_ hk Z_0_q9_8
      replace Nb_q9_8_gd := Nb_q9_8_gd'
      replace Nb_q9_8_g1 := Nb_q9_8_g1'
      replace Nb_q9_8_g7 := Nb_q9_8_g7'
      replace NN_L_q9_8 := NN_L_q9_8'
      replace NN_q9_8_L : ∀ k, OB A9_8 k → ¬ OB A k := fun k h h2 => NN_L_q9_8 k h2 h
      replace Z_0_q9_8 := Z_0_q9_8'
      replace O_q9_8 := O_q9_8'
      try clear O_q9_8'
      clear hk hat
      refine ⟨⟨B_g1, B_g7, trivial⟩, ?_⟩
      exact dr9_18 A9_8 c9_8 g9_1 _ a (En.sub hE ⟨rfl, rfl, rfl, rfl, rfl, rfl, rfl, rfl, rfl, rfl, rfl, rfl, rfl, rfl, rfl, rfl, rfl, rfl, rfl, rfl, rfl, rfl, rfl, rfl, rfl, trivial⟩) B_gd B_g1 B_g7 n_g1_gd n_g7_gd NN_L_q9_8 Nb_q9_8_gd Nb_q9_8_g1 Nb_q9_8_g7 Z_0_q9_8 NN_q9_8_L O_L O_q9_8 K_0
     refine all_cons (d_lit (listed' := #[true, true, true, true, true, true, true, true, false, true, true, false, true, true, true, true, true, true, true, false, false, false, false]) rfl ?_) ?_
     ·
      refine (s_row (xs := [(0, Operand.tmp 52)]) (vs := [(0, Value.agg #[Value.int .i64 r.1, Value.int .i64 r.2.1, Value.int .i64 r.2.2.1, Value.int .i64 r.2.2.2])]) (cs := #[Value.int .i64 r.1, Value.int .i64 r.2.1, Value.int .i64 r.2.2.1, Value.int .i64 r.2.2.2]) p18_9_10 hE wn_none rfl Tryd.underlying22 rfl (by kernel_rfl) ?_)
      clear hE a; intro g9_10 w73 z74 B_g9_10 hk a hE
      have n_gd_g9_10 : gd ≠ g9_10 := ne_new B_gd z74
      have n_g1_g9_10 : g1 ≠ g9_10 := ne_new B_g1 z74
      have n_g7_g9_10 : g7 ≠ g9_10 := ne_new B_g7 z74
      have n_g9_1_g9_10 : g9_1 ≠ g9_10 := ne_new B_g9_1 z74
      have z_0_g9_10 := Nat.le_trans K_0.kept.1 z74
      have Nb_L_g9_10 : ¬ OB A g9_10 := fun h => by have := (Rv.rdv_ob O_L h).2; omega
      replace B_gd := kp_blk B_gd hk (fun h => h)
      replace B_g1 := kp_blk B_g1 hk (fun h => h)
      replace B_g7 := kp_blk B_g7 hk (fun h => h)
      replace B_g9_1 := kp_blk B_g9_1 hk (fun h => h)
      replace O_L := Rv.rdv_keep O_L hk (fun _ _ h => h)
      replace K_0 := K_0.then_ hk (fun _ h => h.elim)
      clear hk
      refine ⟨⟨B_g1, B_g7, trivial⟩, ?_⟩
      have n_g9_10_gd := Ne.symm n_gd_g9_10
      exact dr9_19 g9_1 g9_10 _ a (En.sub hE ⟨rfl, rfl, rfl, rfl, rfl, rfl, rfl, rfl, rfl, rfl, rfl, rfl, rfl, rfl, rfl, rfl, rfl, rfl, rfl, rfl, rfl, rfl, rfl, rfl, rfl, trivial⟩) B_gd B_g1 B_g7 B_g9_1 B_g9_10 n_g1_g9_1 n_g1_g9_10 n_g1_gd n_g7_g9_1 n_g7_g9_10 n_g7_gd n_g9_1_g9_10 n_g9_1_gd n_g9_10_gd z_0_g9_1 z_0_g9_10 Nb_L_g9_1 Nb_L_g9_10 O_L K_0
     exact all_nil
    have dr9_15 : ∀ (g9_10 : Nat) (W : World) (a : Act), En 118 a [(0, Value.pointer (some ⟨gd, 0, none⟩)), (1, Value.agg #[Value.int .i64 r.1, Value.int .i64 r.2.1, Value.int .i64 r.2.2.1, Value.int .i64 r.2.2.2]), (3, Value.pointer (some ⟨g1, 0, none⟩)), (5, Value.int .i64 (i : Int)), (6, Value.pointer (some ⟨g7, 0, none⟩)), (7, Value.int .i64 (cmpF r.2.2.1 o.2.2.1)), (11, Value.bool false), (17, Value.bool true), (43, Value.pointer (some ⟨gd, 0, none⟩)), (45, Value.pointer (some ⟨gd, 0, none⟩)), (46, Value.pointer (some ⟨gd, 0, none⟩)), (47, Value.pointer (some ⟨gd, 1, none⟩)), (48, Value.slice A L.length c), (49, Value.int .i64 (i : Int)), (50, Value.slice A i c), (52, Value.agg #[Value.int .i64 r.1, Value.int .i64 r.2.1, Value.int .i64 r.2.2.1, Value.int .i64 r.2.2.2]), (53, Value.slice (some ⟨g9_10, 0, none⟩) 1 1), (55, Value.pointer (some ⟨gd, 0, none⟩)), (56, Value.pointer (some ⟨gd, 0, none⟩)), (57, Value.pointer (some ⟨gd, 1, none⟩)), (58, Value.slice A L.length c), (59, Value.int .i64 (i : Int)), (60, Value.int .i64 ((i : Int) + 1)), (61, Value.slice AD (L.length - (i + 1)) (c - (i + 1)))] → W.heap[gd]? = some (.cells #[Value.int .i64 32, Value.slice A L.length c] 56 (0, 0)) → W.heap[g1]? = some (.cells #[Value.int .i64 r.1, Value.int .i64 r.2.1, Value.int .i64 r.2.2.1, Value.int .i64 r.2.2.2] 61 (0, 0)) → W.heap[g7]? = some (.cells #[Value.int .i64 o.1, Value.int .i64 o.2.1, Value.int .i64 o.2.2.1, Value.int .i64 o.2.2.2] 61 (0, 0)) → W.heap[g9_10]? = some (.cells #[Value.int .i64 r.1, Value.int .i64 r.2.1, Value.int .i64 r.2.2.1, Value.int .i64 r.2.2.2] 61 (0, 0)) → g1 ≠ g9_10 → g1 ≠ gd → g7 ≠ g9_10 → g7 ≠ gd → g9_10 ≠ gd → w.heap.size ≤ g9_10 → ¬ OB A g9_10 → Rv.RdV W A L.length 4 (flR L) → Kp w W (fun k => k = gd) → wpAnyH Tryd.prog .any (regOf Tryd.f18 9) QQ (fun W => W.heap[g1]? = some (.cells #[Value.int .i64 r.1, Value.int .i64 r.2.1, Value.int .i64 r.2.2.1, Value.int .i64 r.2.2.2] 61 (0, 0)) ∧ W.heap[g7]? = some (.cells #[Value.int .i64 o.1, Value.int .i64 o.2.1, Value.int .i64 o.2.2.1, Value.int .i64 o.2.2.2] 61 (0, 0)) ∧ True) 7 #[true, false, true, true, true, true, true, true, false, true, true, false, true, true, true, true, true, true, true, false, false, false, false] a W := by
     intro g9_10 w75 a hE B_gd B_g1 B_g7 B_g9_10 n_g1_g9_10 n_g1_gd n_g7_g9_10 n_g7_gd n_g9_10_gd z_0_g9_10 Nb_L_g9_10 O_L K_0
     refine d_all (rs := [1]) (by kernel_rfl) rfl ?_
     refine all_cons (d_lit (listed' := #[true, true, true, true, true, true, true, true, false, true, true, false, true, true, true, true, true, true, true, false, false, false, false]) rfl ?_) ?_
     ·
      refine (s_row (xs := []) (vs := []) (cs := #[]) p18_9_1 hE wn_none rfl Tryd.underlying22 rfl (by kernel_rfl) ?_)
      clear hE a; intro g9_1 w76 z77 B_g9_1 hk a hE
      have n_gd_g9_1 : gd ≠ g9_1 := ne_new B_gd z77
      have n_g1_g9_1 : g1 ≠ g9_1 := ne_new B_g1 z77
      have n_g7_g9_1 : g7 ≠ g9_1 := ne_new B_g7 z77
      have n_g9_10_g9_1 : g9_10 ≠ g9_1 := ne_new B_g9_10 z77
      have z_0_g9_1 := Nat.le_trans K_0.kept.1 z77
      have Nb_L_g9_1 : ¬ OB A g9_1 := fun h => by have := (Rv.rdv_ob O_L h).2; omega
      replace B_gd := kp_blk B_gd hk (fun h => h)
      replace B_g1 := kp_blk B_g1 hk (fun h => h)
      replace B_g7 := kp_blk B_g7 hk (fun h => h)
      replace B_g9_10 := kp_blk B_g9_10 hk (fun h => h)
      replace O_L := Rv.rdv_keep O_L hk (fun _ _ h => h)
      replace K_0 := K_0.then_ hk (fun _ h => h.elim)
      clear hk
      refine ⟨⟨B_g1, B_g7, trivial⟩, ?_⟩
      have n_g9_1_g9_10 := Ne.symm n_g9_10_g9_1
      have n_g9_1_gd := Ne.symm n_gd_g9_1
      exact dr9_19 g9_1 g9_10 _ a (En.sub hE ⟨rfl, rfl, rfl, rfl, rfl, rfl, rfl, rfl, rfl, rfl, rfl, rfl, rfl, rfl, rfl, rfl, rfl, rfl, rfl, rfl, rfl, rfl, rfl, rfl, rfl, trivial⟩) B_gd B_g1 B_g7 B_g9_1 B_g9_10 n_g1_g9_1 n_g1_g9_10 n_g1_gd n_g7_g9_1 n_g7_g9_10 n_g7_gd n_g9_1_g9_10 n_g9_1_gd n_g9_10_gd z_0_g9_1 z_0_g9_10 Nb_L_g9_1 Nb_L_g9_10 O_L K_0
     exact all_nil
    have dr9_14 : ∀ (A9_8 : Option Addr) (c9_8 : Nat) (g9_1 : Nat) (g9_10 : Nat) (W : World) (a : Act), En 118 a [(0, Value.pointer (some ⟨gd, 0, none⟩)), (1, Value.agg #[Value.int .i64 r.1, Value.int .i64 r.2.1, Value.int .i64 r.2.2.1, Value.int .i64 r.2.2.2]), (3, Value.pointer (some ⟨g1, 0, none⟩)), (5, Value.int .i64 (i : Int)), (6, Value.pointer (some ⟨g7, 0, none⟩)), (7, Value.int .i64 (cmpF r.2.2.1 o.2.2.1)), (11, Value.bool false), (17, Value.bool true), (43, Value.pointer (some ⟨gd, 0, none⟩)), (44, Value.slice (some ⟨g9_1, 0, none⟩) 0 0), (45, Value.pointer (some ⟨gd, 0, none⟩)), (46, Value.pointer (some ⟨gd, 0, none⟩)), (47, Value.pointer (some ⟨gd, 1, none⟩)), (48, Value.slice A L.length c), (49, Value.int .i64 (i : Int)), (50, Value.slice A i c), (51, Value.slice A9_8 (0 + i) c9_8), (52, Value.agg #[Value.int .i64 r.1, Value.int .i64 r.2.1, Value.int .i64 r.2.2.1, Value.int .i64 r.2.2.2]), (53, Value.slice (some ⟨g9_10, 0, none⟩) 1 1), (55, Value.pointer (some ⟨gd, 0, none⟩)), (56, Value.pointer (some ⟨gd, 0, none⟩)), (57, Value.pointer (some ⟨gd, 1, none⟩)), (59, Value.int .i64 (i : Int)), (60, Value.int .i64 ((i : Int) + 1))] → W.heap[gd]? = some (.cells #[Value.int .i64 32, Value.slice A L.length c] 56 (0, 0)) → W.heap[g1]? = some (.cells #[Value.int .i64 r.1, Value.int .i64 r.2.1, Value.int .i64 r.2.2.1, Value.int .i64 r.2.2.2] 61 (0, 0)) → W.heap[g7]? = some (.cells #[Value.int .i64 o.1, Value.int .i64 o.2.1, Value.int .i64 o.2.2.1, Value.int .i64 o.2.2.2] 61 (0, 0)) → W.heap[g9_10]? = some (.cells #[Value.int .i64 r.1, Value.int .i64 r.2.1, Value.int .i64 r.2.2.1, Value.int .i64 r.2.2.2] 61 (0, 0)) → g1 ≠ g9_10 → g1 ≠ gd → g7 ≠ g9_10 → g7 ≠ gd → g9_10 ≠ gd → w.heap.size ≤ g9_10 → ¬ OB A g9_10 → (∀ k, OB A k → ¬ OB A9_8 k) → ¬ OB A9_8 gd → ¬ OB A9_8 g1 → ¬ OB A9_8 g7 → ¬ OB A9_8 g9_10 → (∀ k, OB A9_8 k → (fun k => k = gd) k ∨ w.heap.size ≤ k) → (∀ k, OB A9_8 k → ¬ OB A k) → Rv.RdV W A L.length 4 (flR L) → W.ownsRow w.heap.size 61 4 (.slice A9_8 (0 + i) c9_8) (0 + i) ([] ++ ((flR L).take (i * 4))) → Kp w W (fun k => k = gd) → wpAnyH Tryd.prog .any (regOf Tryd.f18 9) QQ (fun W => W.heap[g1]? = some (.cells #[Value.int .i64 r.1, Value.int .i64 r.2.1, Value.int .i64 r.2.2.1, Value.int .i64 r.2.2.2] 61 (0, 0)) ∧ W.heap[g7]? = some (.cells #[Value.int .i64 o.1, Value.int .i64 o.2.1, Value.int .i64 o.2.2.1, Value.int .i64 o.2.2.2] 61 (0, 0)) ∧ True) 7 #[true, true, true, true, true, true, true, true, true, true, true, false, true, true, true, false, true, true, false, false, false, false, false] a W := by
     intro A9_8 c9_8 g9_1 g9_10 w78 a hE B_gd B_g1 B_g7 B_g9_10 n_g1_g9_10 n_g1_gd n_g7_g9_10 n_g7_gd n_g9_10_gd z_0_g9_10 Nb_L_g9_10 NN_L_q9_8 Nb_q9_8_gd Nb_q9_8_g1 Nb_q9_8_g7 Nb_q9_8_g9_10 Z_0_q9_8 NN_q9_8_L O_L O_q9_8 K_0
     refine d_all (rs := [11, 15]) (by kernel_rfl) rfl ?_
     refine all_cons (d_lit (listed' := #[true, true, true, true, true, true, true, true, true, true, true, true, true, true, true, false, true, true, false, false, false, false, false]) rfl ?_) ?_
     ·
      refine (s_append (s := 4) (xs := ([] ++ ((flR L).take (i * 4)))) (news := [Value.int .i64 r.1, Value.int .i64 r.2.1, Value.int .i64 r.2.2.1, Value.int .i64 r.2.2.2]) p18_9_11 hE wn_none rfl Tryd.underlying22 eD61 (by decide) rfl O_q9_8 rfl rfl (newsB B_g9_10 rfl) (ones rfl) (by omega) (by omega) K_0.kept.1 ?_)
      clear hE a; intro A9_11 c9_11 w79 O_q9_8' hk hat a hE
      have Nb_q9_8_gd' := grow_n Nb_q9_8_gd (blk_lt B_gd) hat
      have Nb_q9_8_g1' := grow_n Nb_q9_8_g1 (blk_lt B_g1) hat
      have Nb_q9_8_g7' := grow_n Nb_q9_8_g7 (blk_lt B_g7) hat
      have Nb_q9_8_g9_10' := grow_n Nb_q9_8_g9_10 (blk_lt B_g9_10) hat
      have NN_L_q9_8' : ∀ k, OB A k → ¬ OB A9_11 k := fun k h h2 => (hat k h2).elim (NN_L_q9_8 k h) (fun h3 => by have := (Rv.rdv_ob O_L h).2; omega)
      have Z_0_q9_8' := grow_z Z_0_q9_8 K_0.kept.1 hat
      replace B_gd := kp_blk B_gd hk Nb_q9_8_gd
      replace B_g1 := kp_blk B_g1 hk Nb_q9_8_g1
      replace B_g7 := kp_blk B_g7 hk Nb_q9_8_g7
      replace B_g9_10 := kp_blk B_g9_10 hk Nb_q9_8_g9_10
      replace O_L := Rv.rdv_keep O_L hk NN_L_q9_8
      replace K_0 := K_0.then_ hk Z_0_q9_8
      replace Nb_q9_8_gd := Nb_q9_8_gd'
      replace Nb_q9_8_g1 := Nb_q9_8_g1'
      replace Nb_q9_8_g7 := Nb_q9_8_g7'
      replace Nb_q9_8_g9_10 := Nb_q9_8_g9_10'
      replace NN_L_q9_8 := NN_L_q9_8'
      replace NN_q9_8_L : ∀ k, OB A9_11 k → ¬ OB A k := fun k h h2 => NN_L_q9_8 k h2 h
      replace Z_0_q9_8 := Z_0_q9_8'
      replace O_q9_8 := O_q9_8'
      try clear O_q9_8'
      clear hk hat
      refine ⟨⟨B_g1, B_g7, trivial⟩, ?_⟩
      exact dr9_17 A9_11 A9_8 c9_11 c9_8 g9_1 g9_10 _ a (En.sub hE ⟨rfl, rfl, rfl, rfl, rfl, rfl, rfl, rfl, rfl, rfl, rfl, rfl, rfl, rfl, rfl, rfl, rfl, rfl, rfl, rfl, rfl, rfl, rfl, rfl, rfl, trivial⟩) B_gd B_g1 B_g7 B_g9_10 n_g1_g9_10 n_g1_gd n_g7_g9_10 n_g7_gd n_g9_10_gd z_0_g9_10 Nb_L_g9_10 NN_L_q9_8 Nb_q9_8_gd Nb_q9_8_g1 Nb_q9_8_g7 Nb_q9_8_g9_10 Z_0_q9_8 NN_q9_8_L O_L O_q9_8 K_0
     refine all_cons (d_lit (listed' := #[true, true, true, true, true, true, true, true, true, true, true, false, true, true, true, true, true, true, false, false, false, false, false]) rfl ?_) ?_
     ·
      refine (s_still p18_9_15 hE wn_none rfl (st_load1 tA22 rfl ((blk_cell B_gd 1).trans rfl)) ?_); clear hE a; intro a hE
      refine ⟨⟨B_g1, B_g7, trivial⟩, ?_⟩
      refine Rv.dq (listed' := #[true, true, true, true, true, true, true, true, true, true, true, false, true, true, true, true, true, true, true, false, false, false, false]) (v := Value.slice AD (L.length - (i + 1)) (c - (i + 1))) p18_9_18 ns18_9 hE wn_none ⟨B_g1, B_g7, trivial⟩ (fun W hS => (st_sliceL (lo := (i + 1)) (A' := AD) Tryd.underlying22 tS61 rfl rfl (by omega) rfl rfl hAD)) ?_ (fun c a w h => hQ c a _ _ w h); clear hE a; intro a hE
      exact dr9_20 A9_8 c9_8 g9_1 g9_10 _ a (En.sub hE ⟨rfl, rfl, rfl, rfl, rfl, rfl, rfl, rfl, rfl, rfl, rfl, rfl, rfl, rfl, rfl, rfl, rfl, rfl, rfl, rfl, rfl, rfl, rfl, rfl, rfl, rfl, trivial⟩) B_gd B_g1 B_g7 B_g9_10 n_g1_g9_10 n_g1_gd n_g7_g9_10 n_g7_gd n_g9_10_gd z_0_g9_10 Nb_L_g9_10 NN_L_q9_8 Nb_q9_8_gd Nb_q9_8_g1 Nb_q9_8_g7 Nb_q9_8_g9_10 Z_0_q9_8 NN_q9_8_L O_L O_q9_8 K_0
     exact all_nil
    have dr9_13 : ∀ (W : World) (a : Act), En 118 a [(0, Value.pointer (some ⟨gd, 0, none⟩)), (1, Value.agg #[Value.int .i64 r.1, Value.int .i64 r.2.1, Value.int .i64 r.2.2.1, Value.int .i64 r.2.2.2]), (3, Value.pointer (some ⟨g1, 0, none⟩)), (5, Value.int .i64 (i : Int)), (6, Value.pointer (some ⟨g7, 0, none⟩)), (7, Value.int .i64 (cmpF r.2.2.1 o.2.2.1)), (11, Value.bool false), (17, Value.bool true), (43, Value.pointer (some ⟨gd, 0, none⟩)), (45, Value.pointer (some ⟨gd, 0, none⟩)), (46, Value.pointer (some ⟨gd, 0, none⟩)), (47, Value.pointer (some ⟨gd, 1, none⟩)), (48, Value.slice A L.length c), (49, Value.int .i64 (i : Int)), (50, Value.slice A i c), (52, Value.agg #[Value.int .i64 r.1, Value.int .i64 r.2.1, Value.int .i64 r.2.2.1, Value.int .i64 r.2.2.2]), (55, Value.pointer (some ⟨gd, 0, none⟩)), (56, Value.pointer (some ⟨gd, 0, none⟩)), (57, Value.pointer (some ⟨gd, 1, none⟩)), (58, Value.slice A L.length c), (59, Value.int .i64 (i : Int)), (60, Value.int .i64 ((i : Int) + 1)), (61, Value.slice AD (L.length - (i + 1)) (c - (i + 1)))] → W.heap[gd]? = some (.cells #[Value.int .i64 32, Value.slice A L.length c] 56 (0, 0)) → W.heap[g1]? = some (.cells #[Value.int .i64 r.1, Value.int .i64 r.2.1, Value.int .i64 r.2.2.1, Value.int .i64 r.2.2.2] 61 (0, 0)) → W.heap[g7]? = some (.cells #[Value.int .i64 o.1, Value.int .i64 o.2.1, Value.int .i64 o.2.2.1, Value.int .i64 o.2.2.2] 61 (0, 0)) → g1 ≠ gd → g7 ≠ gd → Rv.RdV W A L.length 4 (flR L) → Kp w W (fun k => k = gd) → wpAnyH Tryd.prog .any (regOf Tryd.f18 9) QQ (fun W => W.heap[g1]? = some (.cells #[Value.int .i64 r.1, Value.int .i64 r.2.1, Value.int .i64 r.2.2.1, Value.int .i64 r.2.2.2] 61 (0, 0)) ∧ W.heap[g7]? = some (.cells #[Value.int .i64 o.1, Value.int .i64 o.2.1, Value.int .i64 o.2.2.1, Value.int .i64 o.2.2.2] 61 (0, 0)) ∧ True) 8 #[true, false, true, true, true, true, true, true, false, true, false, false, true, true, true, true, true, true, true, false, false, false, false] a W := by
     intro w80 a hE B_gd B_g1 B_g7 n_g1_gd n_g7_gd O_L K_0
     refine d_all (rs := [1, 10]) (by kernel_rfl) rfl ?_
     refine all_cons (d_lit (listed' := #[true, true, true, true, true, true, true, true, false, true, false, false, true, true, true, true, true, true, true, false, false, false, false]) rfl ?_) ?_
     ·
      refine (s_row (xs := []) (vs := []) (cs := #[]) p18_9_1 hE wn_none rfl Tryd.underlying22 rfl (by kernel_rfl) ?_)
      clear hE a; intro g9_1 w81 z82 B_g9_1 hk a hE
      have n_gd_g9_1 : gd ≠ g9_1 := ne_new B_gd z82
      have n_g1_g9_1 : g1 ≠ g9_1 := ne_new B_g1 z82
      have n_g7_g9_1 : g7 ≠ g9_1 := ne_new B_g7 z82
      have z_0_g9_1 := Nat.le_trans K_0.kept.1 z82
      have Nb_L_g9_1 : ¬ OB A g9_1 := fun h => by have := (Rv.rdv_ob O_L h).2; omega
      replace B_gd := kp_blk B_gd hk (fun h => h)
      replace B_g1 := kp_blk B_g1 hk (fun h => h)
      replace B_g7 := kp_blk B_g7 hk (fun h => h)
      replace O_L := Rv.rdv_keep O_L hk (fun _ _ h => h)
      replace K_0 := K_0.then_ hk (fun _ h => h.elim)
      clear hk
      refine ⟨⟨B_g1, B_g7, trivial⟩, ?_⟩
      have n_g9_1_gd := Ne.symm n_gd_g9_1
      exact dr9_16 g9_1 _ a (En.sub hE ⟨rfl, rfl, rfl, rfl, rfl, rfl, rfl, rfl, rfl, rfl, rfl, rfl, rfl, rfl, rfl, rfl, rfl, rfl, rfl, rfl, rfl, rfl, rfl, rfl, trivial⟩) B_gd B_g1 B_g7 B_g9_1 n_g1_g9_1 n_g1_gd n_g7_g9_1 n_g7_gd n_g9_1_gd z_0_g9_1 Nb_L_g9_1 O_L K_0
     refine all_cons (d_lit (listed' := #[true, false, true, true, true, true, true, true, false, true, true, false, true, true, true, true, true, true, true, false, false, false, false]) rfl ?_) ?_
     ·
      refine (s_row (xs := [(0, Operand.tmp 52)]) (vs := [(0, Value.agg #[Value.int .i64 r.1, Value.int .i64 r.2.1, Value.int .i64 r.2.2.1, Value.int .i64 r.2.2.2])]) (cs := #[Value.int .i64 r.1, Value.int .i64 r.2.1, Value.int .i64 r.2.2.1, Value.int .i64 r.2.2.2]) p18_9_10 hE wn_none rfl Tryd.underlying22 rfl (by kernel_rfl) ?_)
      clear hE a; intro g9_10 w83 z84 B_g9_10 hk a hE
      have n_gd_g9_10 : gd ≠ g9_10 := ne_new B_gd z84
      have n_g1_g9_10 : g1 ≠ g9_10 := ne_new B_g1 z84
      have n_g7_g9_10 : g7 ≠ g9_10 := ne_new B_g7 z84
      have z_0_g9_10 := Nat.le_trans K_0.kept.1 z84
      have Nb_L_g9_10 : ¬ OB A g9_10 := fun h => by have := (Rv.rdv_ob O_L h).2; omega
      replace B_gd := kp_blk B_gd hk (fun h => h)
      replace B_g1 := kp_blk B_g1 hk (fun h => h)
      replace B_g7 := kp_blk B_g7 hk (fun h => h)
      replace O_L := Rv.rdv_keep O_L hk (fun _ _ h => h)
      replace K_0 := K_0.then_ hk (fun _ h => h.elim)
      clear hk
      refine ⟨⟨B_g1, B_g7, trivial⟩, ?_⟩
      have n_g9_10_gd := Ne.symm n_gd_g9_10
      exact dr9_15 g9_10 _ a (En.sub hE ⟨rfl, rfl, rfl, rfl, rfl, rfl, rfl, rfl, rfl, rfl, rfl, rfl, rfl, rfl, rfl, rfl, rfl, rfl, rfl, rfl, rfl, rfl, rfl, rfl, trivial⟩) B_gd B_g1 B_g7 B_g9_10 n_g1_g9_10 n_g1_gd n_g7_g9_10 n_g7_gd n_g9_10_gd z_0_g9_10 Nb_L_g9_10 O_L K_0
     exact all_nil
    have dr9_12 : ∀ (g9_1 : Nat) (g9_10 : Nat) (W : World) (a : Act), En 118 a [(0, Value.pointer (some ⟨gd, 0, none⟩)), (1, Value.agg #[Value.int .i64 r.1, Value.int .i64 r.2.1, Value.int .i64 r.2.2.1, Value.int .i64 r.2.2.2]), (3, Value.pointer (some ⟨g1, 0, none⟩)), (5, Value.int .i64 (i : Int)), (6, Value.pointer (some ⟨g7, 0, none⟩)), (7, Value.int .i64 (cmpF r.2.2.1 o.2.2.1)), (11, Value.bool false), (17, Value.bool true), (43, Value.pointer (some ⟨gd, 0, none⟩)), (44, Value.slice (some ⟨g9_1, 0, none⟩) 0 0), (45, Value.pointer (some ⟨gd, 0, none⟩)), (46, Value.pointer (some ⟨gd, 0, none⟩)), (47, Value.pointer (some ⟨gd, 1, none⟩)), (49, Value.int .i64 (i : Int)), (52, Value.agg #[Value.int .i64 r.1, Value.int .i64 r.2.1, Value.int .i64 r.2.2.1, Value.int .i64 r.2.2.2]), (53, Value.slice (some ⟨g9_10, 0, none⟩) 1 1), (55, Value.pointer (some ⟨gd, 0, none⟩)), (56, Value.pointer (some ⟨gd, 0, none⟩)), (57, Value.pointer (some ⟨gd, 1, none⟩)), (58, Value.slice A L.length c), (59, Value.int .i64 (i : Int)), (60, Value.int .i64 ((i : Int) + 1)), (61, Value.slice AD (L.length - (i + 1)) (c - (i + 1)))] → W.heap[gd]? = some (.cells #[Value.int .i64 32, Value.slice A L.length c] 56 (0, 0)) → W.heap[g1]? = some (.cells #[Value.int .i64 r.1, Value.int .i64 r.2.1, Value.int .i64 r.2.2.1, Value.int .i64 r.2.2.2] 61 (0, 0)) → W.heap[g7]? = some (.cells #[Value.int .i64 o.1, Value.int .i64 o.2.1, Value.int .i64 o.2.2.1, Value.int .i64 o.2.2.2] 61 (0, 0)) → W.heap[g9_1]? = some (.cells #[] 61 (0, 0)) → W.heap[g9_10]? = some (.cells #[Value.int .i64 r.1, Value.int .i64 r.2.1, Value.int .i64 r.2.2.1, Value.int .i64 r.2.2.2] 61 (0, 0)) → g1 ≠ g9_1 → g1 ≠ g9_10 → g1 ≠ gd → g7 ≠ g9_1 → g7 ≠ g9_10 → g7 ≠ gd → g9_1 ≠ g9_10 → g9_1 ≠ gd → g9_10 ≠ gd → w.heap.size ≤ g9_1 → w.heap.size ≤ g9_10 → ¬ OB A g9_1 → ¬ OB A g9_10 → Rv.RdV W A L.length 4 (flR L) → Kp w W (fun k => k = gd) → wpAnyH Tryd.prog .any (regOf Tryd.f18 9) QQ (fun W => W.heap[g1]? = some (.cells #[Value.int .i64 r.1, Value.int .i64 r.2.1, Value.int .i64 r.2.2.1, Value.int .i64 r.2.2.2] 61 (0, 0)) ∧ W.heap[g7]? = some (.cells #[Value.int .i64 o.1, Value.int .i64 o.2.1, Value.int .i64 o.2.2.1, Value.int .i64 o.2.2.2] 61 (0, 0)) ∧ True) 8 #[true, true, true, true, true, false, true, false, false, true, true, false, true, true, true, true, true, true, true, false, false, false, false] a W := by
     intro g9_1 g9_10 w85 a hE B_gd B_g1 B_g7 B_g9_1 B_g9_10 n_g1_g9_1 n_g1_g9_10 n_g1_gd n_g7_g9_1 n_g7_g9_10 n_g7_gd n_g9_1_g9_10 n_g9_1_gd n_g9_10_gd z_0_g9_1 z_0_g9_10 Nb_L_g9_1 Nb_L_g9_10 O_L K_0
     refine d_all (rs := [5]) (by kernel_rfl) rfl ?_
     refine all_cons (d_lit (listed' := #[true, true, true, true, true, true, true, false, false, true, true, false, true, true, true, true, true, true, true, false, false, false, false]) rfl ?_) ?_
     ·
      refine (s_still p18_9_5 hE wn_none rfl (st_load1 tA22 rfl ((blk_cell B_gd 1).trans rfl)) ?_); clear hE a; intro a hE
      refine ⟨⟨B_g1, B_g7, trivial⟩, ?_⟩
      refine Rv.dq (listed' := #[true, true, true, true, true, true, true, true, false, true, true, false, true, true, true, true, true, true, true, false, false, false, false]) (v := Value.slice A i c) p18_9_7 ns18_9 hE wn_none ⟨B_g1, B_g7, trivial⟩ (fun W hS => (st_sliceH (h := i) Tryd.underlying22 tS61 rfl rfl (by omega))) ?_ (fun c a w h => hQ c a _ _ w h); clear hE a; intro a hE
      exact dr9_19 g9_1 g9_10 _ a (En.sub hE ⟨rfl, rfl, rfl, rfl, rfl, rfl, rfl, rfl, rfl, rfl, rfl, rfl, rfl, rfl, rfl, rfl, rfl, rfl, rfl, rfl, rfl, rfl, rfl, rfl, rfl, trivial⟩) B_gd B_g1 B_g7 B_g9_1 B_g9_10 n_g1_g9_1 n_g1_g9_10 n_g1_gd n_g7_g9_1 n_g7_g9_10 n_g7_gd n_g9_1_g9_10 n_g9_1_gd n_g9_10_gd z_0_g9_1 z_0_g9_10 Nb_L_g9_1 Nb_L_g9_10 O_L K_0
     exact all_nil
    have dr9_11 : ∀ (A9_8 : Option Addr) (c9_8 : Nat) (g9_1 : Nat) (W : World) (a : Act), En 118 a [(0, Value.pointer (some ⟨gd, 0, none⟩)), (1, Value.agg #[Value.int .i64 r.1, Value.int .i64 r.2.1, Value.int .i64 r.2.2.1, Value.int .i64 r.2.2.2]), (3, Value.pointer (some ⟨g1, 0, none⟩)), (5, Value.int .i64 (i : Int)), (6, Value.pointer (some ⟨g7, 0, none⟩)), (7, Value.int .i64 (cmpF r.2.2.1 o.2.2.1)), (11, Value.bool false), (17, Value.bool true), (43, Value.pointer (some ⟨gd, 0, none⟩)), (44, Value.slice (some ⟨g9_1, 0, none⟩) 0 0), (45, Value.pointer (some ⟨gd, 0, none⟩)), (46, Value.pointer (some ⟨gd, 0, none⟩)), (47, Value.pointer (some ⟨gd, 1, none⟩)), (48, Value.slice A L.length c), (49, Value.int .i64 (i : Int)), (50, Value.slice A i c), (51, Value.slice A9_8 (0 + i) c9_8), (52, Value.agg #[Value.int .i64 r.1, Value.int .i64 r.2.1, Value.int .i64 r.2.2.1, Value.int .i64 r.2.2.2]), (55, Value.pointer (some ⟨gd, 0, none⟩)), (56, Value.pointer (some ⟨gd, 0, none⟩)), (57, Value.pointer (some ⟨gd, 1, none⟩)), (59, Value.int .i64 (i : Int)), (60, Value.int .i64 ((i : Int) + 1))] → W.heap[gd]? = some (.cells #[Value.int .i64 32, Value.slice A L.length c] 56 (0, 0)) → W.heap[g1]? = some (.cells #[Value.int .i64 r.1, Value.int .i64 r.2.1, Value.int .i64 r.2.2.1, Value.int .i64 r.2.2.2] 61 (0, 0)) → W.heap[g7]? = some (.cells #[Value.int .i64 o.1, Value.int .i64 o.2.1, Value.int .i64 o.2.2.1, Value.int .i64 o.2.2.2] 61 (0, 0)) → g1 ≠ gd → g7 ≠ gd → (∀ k, OB A k → ¬ OB A9_8 k) → ¬ OB A9_8 gd → ¬ OB A9_8 g1 → ¬ OB A9_8 g7 → (∀ k, OB A9_8 k → (fun k => k = gd) k ∨ w.heap.size ≤ k) → (∀ k, OB A9_8 k → ¬ OB A k) → Rv.RdV W A L.length 4 (flR L) → W.ownsRow w.heap.size 61 4 (.slice A9_8 (0 + i) c9_8) (0 + i) ([] ++ ((flR L).take (i * 4))) → Kp w W (fun k => k = gd) → wpAnyH Tryd.prog .any (regOf Tryd.f18 9) QQ (fun W => W.heap[g1]? = some (.cells #[Value.int .i64 r.1, Value.int .i64 r.2.1, Value.int .i64 r.2.2.1, Value.int .i64 r.2.2.2] 61 (0, 0)) ∧ W.heap[g7]? = some (.cells #[Value.int .i64 o.1, Value.int .i64 o.2.1, Value.int .i64 o.2.2.1, Value.int .i64 o.2.2.2] 61 (0, 0)) ∧ True) 8 #[true, true, true, true, true, true, true, true, true, true, false, false, true, true, true, false, true, true, false, false, false, false, false] a W := by
     intro A9_8 c9_8 g9_1 w86 a hE B_gd B_g1 B_g7 n_g1_gd n_g7_gd NN_L_q9_8 Nb_q9_8_gd Nb_q9_8_g1 Nb_q9_8_g7 Z_0_q9_8 NN_q9_8_L O_L O_q9_8 K_0
     refine d_all (rs := [10, 15]) (by kernel_rfl) rfl ?_
     refine all_cons (d_lit (listed' := #[true, true, true, true, true, true, true, true, true, true, true, false, true, true, true, false, true, true, false, false, false, false, false]) rfl ?_) ?_
     ·
      refine (s_row (xs := [(0, Operand.tmp 52)]) (vs := [(0, Value.agg #[Value.int .i64 r.1, Value.int .i64 r.2.1, Value.int .i64 r.2.2.1, Value.int .i64 r.2.2.2])]) (cs := #[Value.int .i64 r.1, Value.int .i64 r.2.1, Value.int .i64 r.2.2.1, Value.int .i64 r.2.2.2]) p18_9_10 hE wn_none rfl Tryd.underlying22 rfl (by kernel_rfl) ?_)
      clear hE a; intro g9_10 w87 z88 B_g9_10 hk a hE
      have n_gd_g9_10 : gd ≠ g9_10 := ne_new B_gd z88
      have n_g1_g9_10 : g1 ≠ g9_10 := ne_new B_g1 z88
      have n_g7_g9_10 : g7 ≠ g9_10 := ne_new B_g7 z88
      have z_0_g9_10 := Nat.le_trans K_0.kept.1 z88
      have Nb_L_g9_10 : ¬ OB A g9_10 := fun h => by have := (Rv.rdv_ob O_L h).2; omega
      have Nb_q9_8_g9_10 : ¬ OB A9_8 g9_10 := fun h => by have := (own_ob O_q9_8 h).2; omega
      replace B_gd := kp_blk B_gd hk (fun h => h)
      replace B_g1 := kp_blk B_g1 hk (fun h => h)
      replace B_g7 := kp_blk B_g7 hk (fun h => h)
      replace O_L := Rv.rdv_keep O_L hk (fun _ _ h => h)
      replace O_q9_8 := own_keep O_q9_8 hk (fun _ _ h => h)
      replace K_0 := K_0.then_ hk (fun _ h => h.elim)
      clear hk
      refine ⟨⟨B_g1, B_g7, trivial⟩, ?_⟩
      have n_g9_10_gd := Ne.symm n_gd_g9_10
      exact dr9_14 A9_8 c9_8 g9_1 g9_10 _ a (En.sub hE ⟨rfl, rfl, rfl, rfl, rfl, rfl, rfl, rfl, rfl, rfl, rfl, rfl, rfl, rfl, rfl, rfl, rfl, rfl, rfl, rfl, rfl, rfl, rfl, rfl, trivial⟩) B_gd B_g1 B_g7 B_g9_10 n_g1_g9_10 n_g1_gd n_g7_g9_10 n_g7_gd n_g9_10_gd z_0_g9_10 Nb_L_g9_10 NN_L_q9_8 Nb_q9_8_gd Nb_q9_8_g1 Nb_q9_8_g7 Nb_q9_8_g9_10 Z_0_q9_8 NN_q9_8_L O_L O_q9_8 K_0
     refine all_cons (d_lit (listed' := #[true, true, true, true, true, true, true, true, true, true, false, false, true, true, true, true, true, true, false, false, false, false, false]) rfl ?_) ?_
     ·
      refine (s_still p18_9_15 hE wn_none rfl (st_load1 tA22 rfl ((blk_cell B_gd 1).trans rfl)) ?_); clear hE a; intro a hE
      refine ⟨⟨B_g1, B_g7, trivial⟩, ?_⟩
      refine Rv.dq (listed' := #[true, true, true, true, true, true, true, true, true, true, false, false, true, true, true, true, true, true, true, false, false, false, false]) (v := Value.slice AD (L.length - (i + 1)) (c - (i + 1))) p18_9_18 ns18_9 hE wn_none ⟨B_g1, B_g7, trivial⟩ (fun W hS => (st_sliceL (lo := (i + 1)) (A' := AD) Tryd.underlying22 tS61 rfl rfl (by omega) rfl rfl hAD)) ?_ (fun c a w h => hQ c a _ _ w h); clear hE a; intro a hE
      exact dr9_18 A9_8 c9_8 g9_1 _ a (En.sub hE ⟨rfl, rfl, rfl, rfl, rfl, rfl, rfl, rfl, rfl, rfl, rfl, rfl, rfl, rfl, rfl, rfl, rfl, rfl, rfl, rfl, rfl, rfl, rfl, rfl, rfl, trivial⟩) B_gd B_g1 B_g7 n_g1_gd n_g7_gd NN_L_q9_8 Nb_q9_8_gd Nb_q9_8_g1 Nb_q9_8_g7 Z_0_q9_8 NN_q9_8_L O_L O_q9_8 K_0
     exact all_nil
    have dr9_10 : ∀ (g9_1 : Nat) (g9_10 : Nat) (W : World) (a : Act), En 118 a [(0, Value.pointer (some ⟨gd, 0, none⟩)), (1, Value.agg #[Value.int .i64 r.1, Value.int .i64 r.2.1, Value.int .i64 r.2.2.1, Value.int .i64 r.2.2.2]), (3, Value.pointer (some ⟨g1, 0, none⟩)), (5, Value.int .i64 (i : Int)), (6, Value.pointer (some ⟨g7, 0, none⟩)), (7, Value.int .i64 (cmpF r.2.2.1 o.2.2.1)), (11, Value.bool false), (17, Value.bool true), (43, Value.pointer (some ⟨gd, 0, none⟩)), (44, Value.slice (some ⟨g9_1, 0, none⟩) 0 0), (45, Value.pointer (some ⟨gd, 0, none⟩)), (46, Value.pointer (some ⟨gd, 0, none⟩)), (47, Value.pointer (some ⟨gd, 1, none⟩)), (48, Value.slice A L.length c), (49, Value.int .i64 (i : Int)), (50, Value.slice A i c), (52, Value.agg #[Value.int .i64 r.1, Value.int .i64 r.2.1, Value.int .i64 r.2.2.1, Value.int .i64 r.2.2.2]), (53, Value.slice (some ⟨g9_10, 0, none⟩) 1 1), (55, Value.pointer (some ⟨gd, 0, none⟩)), (56, Value.pointer (some ⟨gd, 0, none⟩)), (57, Value.pointer (some ⟨gd, 1, none⟩)), (59, Value.int .i64 (i : Int)), (60, Value.int .i64 ((i : Int) + 1))] → W.heap[gd]? = some (.cells #[Value.int .i64 32, Value.slice A L.length c] 56 (0, 0)) → W.heap[g1]? = some (.cells #[Value.int .i64 r.1, Value.int .i64 r.2.1, Value.int .i64 r.2.2.1, Value.int .i64 r.2.2.2] 61 (0, 0)) → W.heap[g7]? = some (.cells #[Value.int .i64 o.1, Value.int .i64 o.2.1, Value.int .i64 o.2.2.1, Value.int .i64 o.2.2.2] 61 (0, 0)) → W.heap[g9_1]? = some (.cells #[] 61 (0, 0)) → W.heap[g9_10]? = some (.cells #[Value.int .i64 r.1, Value.int .i64 r.2.1, Value.int .i64 r.2.2.1, Value.int .i64 r.2.2.2] 61 (0, 0)) → g1 ≠ g9_1 → g1 ≠ g9_10 → g1 ≠ gd → g7 ≠ g9_1 → g7 ≠ g9_10 → g7 ≠ gd → g9_1 ≠ g9_10 → g9_1 ≠ gd → g9_10 ≠ gd → w.heap.size ≤ g9_1 → w.heap.size ≤ g9_10 → ¬ OB A g9_1 → ¬ OB A g9_10 → Rv.RdV W A L.length 4 (flR L) → Kp w W (fun k => k = gd) → wpAnyH Tryd.prog .any (regOf Tryd.f18 9) QQ (fun W => W.heap[g1]? = some (.cells #[Value.int .i64 r.1, Value.int .i64 r.2.1, Value.int .i64 r.2.2.1, Value.int .i64 r.2.2.2] 61 (0, 0)) ∧ W.heap[g7]? = some (.cells #[Value.int .i64 o.1, Value.int .i64 o.2.1, Value.int .i64 o.2.2.1, Value.int .i64 o.2.2.2] 61 (0, 0)) ∧ True) 8 #[true, true, true, true, true, true, true, true, false, true, true, false, true, true, true, false, true, true, false, false, false, false, false] a W := by
     intro g9_1 g9_10 w89 a hE B_gd B_g1 B_g7 B_g9_1 B_g9_10 n_g1_g9_1 n_g1_g9_10 n_g1_gd n_g7_g9_1 n_g7_g9_10 n_g7_gd n_g9_1_g9_10 n_g9_1_gd n_g9_10_gd z_0_g9_1 z_0_g9_10 Nb_L_g9_1 Nb_L_g9_10 O_L K_0
     refine d_all (rs := [8, 15]) (by kernel_rfl) rfl ?_
     refine all_cons (d_lit (listed' := #[true, true, true, true, true, true, true, true, true, true, true, false, true, true, true, false, true, true, false, false, false, false, false]) rfl ?_) ?_
     ·
      have O_q9_8 := own_blk0 (s := 4) B_g9_1 (show w.heap.size ≤ g9_1 from z_0_g9_1)
      have Nb_q9_8_gd : ¬ OB (some ⟨g9_1, 0, none⟩) gd := fun h => by have h := ob_blk.1 h; exact n_g9_1_gd h
      have Nb_q9_8_g1 : ¬ OB (some ⟨g9_1, 0, none⟩) g1 := fun h => by have h := ob_blk.1 h; exact (Ne.symm n_g1_g9_1) h
      have Nb_q9_8_g7 : ¬ OB (some ⟨g9_1, 0, none⟩) g7 := fun h => by have h := ob_blk.1 h; exact (Ne.symm n_g7_g9_1) h
      have Nb_q9_8_g9_10 : ¬ OB (some ⟨g9_1, 0, none⟩) g9_10 := fun h => by have h := ob_blk.1 h; exact n_g9_1_g9_10 h
      have Z_0_q9_8 : ∀ k, OB (some ⟨g9_1, 0, none⟩) k → (fun k => k = gd) k ∨ w.heap.size ≤ k := fun k h => by have h := ob_blk.1 h; subst h; exact Or.inr z_0_g9_1
      have NN_q9_8_L : ∀ k, OB (some ⟨g9_1, 0, none⟩) k → ¬ OB A k := fun k h h2 => by have h := ob_blk.1 h; subst h; exact Nb_L_g9_1 h2
      have NN_L_q9_8 : ∀ k, OB A k → ¬ OB (some ⟨g9_1, 0, none⟩) k := fun k h h2 => NN_q9_8_L k h2 h
      refine (Rv.s_appendV (s := 4) (xs := []) p18_9_8 hE wn_none rfl Tryd.underlying22 eD61 (by decide) rfl O_q9_8 rfl (Rv.rdv_take O_L (by omega)) (by omega) (by omega) K_0.kept.1 ?_ hcA.2)
      clear hE a; intro A9_8 c9_8 w90 O_q9_8' hk hat a hE
      have Nb_q9_8_gd' := grow_n Nb_q9_8_gd (blk_lt B_gd) hat
      have Nb_q9_8_g1' := grow_n Nb_q9_8_g1 (blk_lt B_g1) hat
      have Nb_q9_8_g7' := grow_n Nb_q9_8_g7 (blk_lt B_g7) hat
      have Nb_q9_8_g9_10' := grow_n Nb_q9_8_g9_10 (blk_lt B_g9_10) hat
      have NN_L_q9_8' : ∀ k, OB A k → ¬ OB A9_8 k := fun k h h2 => (hat k h2).elim (NN_L_q9_8 k h) (fun h3 => by have := (Rv.rdv_ob O_L h).2; omega)
      have Z_0_q9_8' := grow_z Z_0_q9_8 K_0.kept.1 hat
      replace B_gd := kp_blk B_gd hk Nb_q9_8_gd
      replace B_g1 := kp_blk B_g1 hk Nb_q9_8_g1
      replace B_g7 := kp_blk B_g7 hk Nb_q9_8_g7
      replace B_g9_10 := kp_blk B_g9_10 hk Nb_q9_8_g9_10
      replace O_L := Rv.rdv_keep O_L hk NN_L_q9_8
      replace K_0 := K_0.then_ hk Z_0_q9_8
      replace Nb_q9_8_gd := Nb_q9_8_gd'
      replace Nb_q9_8_g1 := Nb_q9_8_g1'
      replace Nb_q9_8_g7 := Nb_q9_8_g7'
      replace Nb_q9_8_g9_10 := Nb_q9_8_g9_10'
      replace NN_L_q9_8 := NN_L_q9_8'
      replace NN_q9_8_L : ∀ k, OB A9_8 k → ¬ OB A k := fun k h h2 => NN_L_q9_8 k h2 h
      replace Z_0_q9_8 := Z_0_q9_8'
      replace O_q9_8 := O_q9_8'
      try clear O_q9_8'
      clear hk hat
      refine ⟨⟨B_g1, B_g7, trivial⟩, ?_⟩
      exact dr9_14 A9_8 c9_8 g9_1 g9_10 _ a (En.sub hE ⟨rfl, rfl, rfl, rfl, rfl, rfl, rfl, rfl, rfl, rfl, rfl, rfl, rfl, rfl, rfl, rfl, rfl, rfl, rfl, rfl, rfl, rfl, rfl, rfl, trivial⟩) B_gd B_g1 B_g7 B_g9_10 n_g1_g9_10 n_g1_gd n_g7_g9_10 n_g7_gd n_g9_10_gd z_0_g9_10 Nb_L_g9_10 NN_L_q9_8 Nb_q9_8_gd Nb_q9_8_g1 Nb_q9_8_g7 Nb_q9_8_g9_10 Z_0_q9_8 NN_q9_8_L O_L O_q9_8 K_0
     refine all_cons (d_lit (listed' := #[true, true, true, true, true, true, true, true, false, true, true, false, true, true, true, true, true, true, false, false, false, false, false]) rfl ?_) ?_
     ·
      refine (s_still p18_9_15 hE wn_none rfl (st_load1 tA22 rfl ((blk_cell B_gd 1).trans rfl)) ?_); clear hE a; intro a hE
      refine ⟨⟨B_g1, B_g7, trivial⟩, ?_⟩
      refine Rv.dq (listed' := #[true, true, true, true, true, true, true, true, false, true, true, false, true, true, true, true, true, true, true, false, false, false, false]) (v := Value.slice AD (L.length - (i + 1)) (c - (i + 1))) p18_9_18 ns18_9 hE wn_none ⟨B_g1, B_g7, trivial⟩ (fun W hS => (st_sliceL (lo := (i + 1)) (A' := AD) Tryd.underlying22 tS61 rfl rfl (by omega) rfl rfl hAD)) ?_ (fun c a w h => hQ c a _ _ w h); clear hE a; intro a hE
      exact dr9_19 g9_1 g9_10 _ a (En.sub hE ⟨rfl, rfl, rfl, rfl, rfl, rfl, rfl, rfl, rfl, rfl, rfl, rfl, rfl, rfl, rfl, rfl, rfl, rfl, rfl, rfl, rfl, rfl, rfl, rfl, rfl, trivial⟩) B_gd B_g1 B_g7 B_g9_1 B_g9_10 n_g1_g9_1 n_g1_g9_10 n_g1_gd n_g7_g9_1 n_g7_g9_10 n_g7_gd n_g9_1_g9_10 n_g9_1_gd n_g9_10_gd z_0_g9_1 z_0_g9_10 Nb_L_g9_1 Nb_L_g9_10 O_L K_0
     exact all_nil
    have dr9_9 : ∀ (g9_1 : Nat) (W : World) (a : Act), En 118 a [(0, Value.pointer (some ⟨gd, 0, none⟩)), (1, Value.agg #[Value.int .i64 r.1, Value.int .i64 r.2.1, Value.int .i64 r.2.2.1, Value.int .i64 r.2.2.2]), (3, Value.pointer (some ⟨g1, 0, none⟩)), (5, Value.int .i64 (i : Int)), (6, Value.pointer (some ⟨g7, 0, none⟩)), (7, Value.int .i64 (cmpF r.2.2.1 o.2.2.1)), (11, Value.bool false), (17, Value.bool true), (43, Value.pointer (some ⟨gd, 0, none⟩)), (44, Value.slice (some ⟨g9_1, 0, none⟩) 0 0), (45, Value.pointer (some ⟨gd, 0, none⟩)), (46, Value.pointer (some ⟨gd, 0, none⟩)), (47, Value.pointer (some ⟨gd, 1, none⟩)), (49, Value.int .i64 (i : Int)), (52, Value.agg #[Value.int .i64 r.1, Value.int .i64 r.2.1, Value.int .i64 r.2.2.1, Value.int .i64 r.2.2.2]), (55, Value.pointer (some ⟨gd, 0, none⟩)), (56, Value.pointer (some ⟨gd, 0, none⟩)), (57, Value.pointer (some ⟨gd, 1, none⟩)), (58, Value.slice A L.length c), (59, Value.int .i64 (i : Int)), (60, Value.int .i64 ((i : Int) + 1)), (61, Value.slice AD (L.length - (i + 1)) (c - (i + 1)))] → W.heap[gd]? = some (.cells #[Value.int .i64 32, Value.slice A L.length c] 56 (0, 0)) → W.heap[g1]? = some (.cells #[Value.int .i64 r.1, Value.int .i64 r.2.1, Value.int .i64 r.2.2.1, Value.int .i64 r.2.2.2] 61 (0, 0)) → W.heap[g7]? = some (.cells #[Value.int .i64 o.1, Value.int .i64 o.2.1, Value.int .i64 o.2.2.1, Value.int .i64 o.2.2.2] 61 (0, 0)) → W.heap[g9_1]? = some (.cells #[] 61 (0, 0)) → g1 ≠ g9_1 → g1 ≠ gd → g7 ≠ g9_1 → g7 ≠ gd → g9_1 ≠ gd → w.heap.size ≤ g9_1 → ¬ OB A g9_1 → Rv.RdV W A L.length 4 (flR L) → Kp w W (fun k => k = gd) → wpAnyH Tryd.prog .any (regOf Tryd.f18 9) QQ (fun W => W.heap[g1]? = some (.cells #[Value.int .i64 r.1, Value.int .i64 r.2.1, Value.int .i64 r.2.2.1, Value.int .i64 r.2.2.2] 61 (0, 0)) ∧ W.heap[g7]? = some (.cells #[Value.int .i64 o.1, Value.int .i64 o.2.1, Value.int .i64 o.2.2.1, Value.int .i64 o.2.2.2] 61 (0, 0)) ∧ True) 9 #[true, true, true, true, true, false, true, false, false, true, false, false, true, true, true, true, true, true, true, false, false, false, false] a W := by
     intro g9_1 w91 a hE B_gd B_g1 B_g7 B_g9_1 n_g1_g9_1 n_g1_gd n_g7_g9_1 n_g7_gd n_g9_1_gd z_0_g9_1 Nb_L_g9_1 O_L K_0
     refine d_all (rs := [5, 10]) (by kernel_rfl) rfl ?_
     refine all_cons (d_lit (listed' := #[true, true, true, true, true, true, true, false, false, true, false, false, true, true, true, true, true, true, true, false, false, false, false]) rfl ?_) ?_
     ·
      refine (s_still p18_9_5 hE wn_none rfl (st_load1 tA22 rfl ((blk_cell B_gd 1).trans rfl)) ?_); clear hE a; intro a hE
      refine ⟨⟨B_g1, B_g7, trivial⟩, ?_⟩
      refine Rv.dq (listed' := #[true, true, true, true, true, true, true, true, false, true, false, false, true, true, true, true, true, true, true, false, false, false, false]) (v := Value.slice A i c) p18_9_7 ns18_9 hE wn_none ⟨B_g1, B_g7, trivial⟩ (fun W hS => (st_sliceH (h := i) Tryd.underlying22 tS61 rfl rfl (by omega))) ?_ (fun c a w h => hQ c a _ _ w h); clear hE a; intro a hE
      exact dr9_16 g9_1 _ a (En.sub hE ⟨rfl, rfl, rfl, rfl, rfl, rfl, rfl, rfl, rfl, rfl, rfl, rfl, rfl, rfl, rfl, rfl, rfl, rfl, rfl, rfl, rfl, rfl, rfl, rfl, trivial⟩) B_gd B_g1 B_g7 B_g9_1 n_g1_g9_1 n_g1_gd n_g7_g9_1 n_g7_gd n_g9_1_gd z_0_g9_1 Nb_L_g9_1 O_L K_0
     refine all_cons (d_lit (listed' := #[true, true, true, true, true, false, true, false, false, true, true, false, true, true, true, true, true, true, true, false, false, false, false]) rfl ?_) ?_
     ·
      refine (s_row (xs := [(0, Operand.tmp 52)]) (vs := [(0, Value.agg #[Value.int .i64 r.1, Value.int .i64 r.2.1, Value.int .i64 r.2.2.1, Value.int .i64 r.2.2.2])]) (cs := #[Value.int .i64 r.1, Value.int .i64 r.2.1, Value.int .i64 r.2.2.1, Value.int .i64 r.2.2.2]) p18_9_10 hE wn_none rfl Tryd.underlying22 rfl (by kernel_rfl) ?_)
      clear hE a; intro g9_10 w92 z93 B_g9_10 hk a hE
      have n_gd_g9_10 : gd ≠ g9_10 := ne_new B_gd z93
      have n_g1_g9_10 : g1 ≠ g9_10 := ne_new B_g1 z93
      have n_g7_g9_10 : g7 ≠ g9_10 := ne_new B_g7 z93
      have n_g9_1_g9_10 : g9_1 ≠ g9_10 := ne_new B_g9_1 z93
      have z_0_g9_10 := Nat.le_trans K_0.kept.1 z93
      have Nb_L_g9_10 : ¬ OB A g9_10 := fun h => by have := (Rv.rdv_ob O_L h).2; omega
      replace B_gd := kp_blk B_gd hk (fun h => h)
      replace B_g1 := kp_blk B_g1 hk (fun h => h)
      replace B_g7 := kp_blk B_g7 hk (fun h => h)
      replace B_g9_1 := kp_blk B_g9_1 hk (fun h => h)
      replace O_L := Rv.rdv_keep O_L hk (fun _ _ h => h)
      replace K_0 := K_0.then_ hk (fun _ h => h.elim)
      clear hk
      refine ⟨⟨B_g1, B_g7, trivial⟩, ?_⟩
      have n_g9_10_gd := Ne.symm n_gd_g9_10
      exact dr9_12 g9_1 g9_10 _ a (En.sub hE ⟨rfl, rfl, rfl, rfl, rfl, rfl, rfl, rfl, rfl, rfl, rfl, rfl, rfl, rfl, rfl, rfl, rfl, rfl, rfl, rfl, rfl, rfl, rfl, trivial⟩) B_gd B_g1 B_g7 B_g9_1 B_g9_10 n_g1_g9_1 n_g1_g9_10 n_g1_gd n_g7_g9_1 n_g7_g9_10 n_g7_gd n_g9_1_g9_10 n_g9_1_gd n_g9_10_gd z_0_g9_1 z_0_g9_10 Nb_L_g9_1 Nb_L_g9_10 O_L K_0
     exact all_nil
    have dr9_8 : ∀ (g9_10 : Nat) (W : World) (a : Act), En 118 a [(0, Value.pointer (some ⟨gd, 0, none⟩)), (1, Value.agg #[Value.int .i64 r.1, Value.int .i64 r.2.1, Value.int .i64 r.2.2.1, Value.int .i64 r.2.2.2]), (3, Value.pointer (some ⟨g1, 0, none⟩)), (5, Value.int .i64 (i : Int)), (6, Value.pointer (some ⟨g7, 0, none⟩)), (7, Value.int .i64 (cmpF r.2.2.1 o.2.2.1)), (11, Value.bool false), (17, Value.bool true), (43, Value.pointer (some ⟨gd, 0, none⟩)), (45, Value.pointer (some ⟨gd, 0, none⟩)), (46, Value.pointer (some ⟨gd, 0, none⟩)), (47, Value.pointer (some ⟨gd, 1, none⟩)), (48, Value.slice A L.length c), (49, Value.int .i64 (i : Int)), (50, Value.slice A i c), (52, Value.agg #[Value.int .i64 r.1, Value.int .i64 r.2.1, Value.int .i64 r.2.2.1, Value.int .i64 r.2.2.2]), (53, Value.slice (some ⟨g9_10, 0, none⟩) 1 1), (55, Value.pointer (some ⟨gd, 0, none⟩)), (56, Value.pointer (some ⟨gd, 0, none⟩)), (57, Value.pointer (some ⟨gd, 1, none⟩)), (59, Value.int .i64 (i : Int)), (60, Value.int .i64 ((i : Int) + 1))] → W.heap[gd]? = some (.cells #[Value.int .i64 32, Value.slice A L.length c] 56 (0, 0)) → W.heap[g1]? = some (.cells #[Value.int .i64 r.1, Value.int .i64 r.2.1, Value.int .i64 r.2.2.1, Value.int .i64 r.2.2.2] 61 (0, 0)) → W.heap[g7]? = some (.cells #[Value.int .i64 o.1, Value.int .i64 o.2.1, Value.int .i64 o.2.2.1, Value.int .i64 o.2.2.2] 61 (0, 0)) → W.heap[g9_10]? = some (.cells #[Value.int .i64 r.1, Value.int .i64 r.2.1, Value.int .i64 r.2.2.1, Value.int .i64 r.2.2.2] 61 (0, 0)) → g1 ≠ g9_10 → g1 ≠ gd → g7 ≠ g9_10 → g7 ≠ gd → g9_10 ≠ gd → w.heap.size ≤ g9_10 → ¬ OB A g9_10 → Rv.RdV W A L.length 4 (flR L) → Kp w W (fun k => k = gd) → wpAnyH Tryd.prog .any (regOf Tryd.f18 9) QQ (fun W => W.heap[g1]? = some (.cells #[Value.int .i64 r.1, Value.int .i64 r.2.1, Value.int .i64 r.2.2.1, Value.int .i64 r.2.2.2] 61 (0, 0)) ∧ W.heap[g7]? = some (.cells #[Value.int .i64 o.1, Value.int .i64 o.2.1, Value.int .i64 o.2.2.1, Value.int .i64 o.2.2.2] 61 (0, 0)) ∧ True) 9 #[true, false, true, true, true, true, true, true, false, true, true, false, true, true, true, false, true, true, false, false, false, false, false] a W := by
     intro g9_10 w94 a hE B_gd B_g1 B_g7 B_g9_10 n_g1_g9_10 n_g1_gd n_g7_g9_10 n_g7_gd n_g9_10_gd z_0_g9_10 Nb_L_g9_10 O_L K_0
     refine d_all (rs := [1, 15]) (by kernel_rfl) rfl ?_
     refine all_cons (d_lit (listed' := #[true, true, true, true, true, true, true, true, false, true, true, false, true, true, true, false, true, true, false, false, false, false, false]) rfl ?_) ?_
     ·
      refine (s_row (xs := []) (vs := []) (cs := #[]) p18_9_1 hE wn_none rfl Tryd.underlying22 rfl (by kernel_rfl) ?_)
      clear hE a; intro g9_1 w95 z96 B_g9_1 hk a hE
      have n_gd_g9_1 : gd ≠ g9_1 := ne_new B_gd z96
      have n_g1_g9_1 : g1 ≠ g9_1 := ne_new B_g1 z96
      have n_g7_g9_1 : g7 ≠ g9_1 := ne_new B_g7 z96
      have n_g9_10_g9_1 : g9_10 ≠ g9_1 := ne_new B_g9_10 z96
      have z_0_g9_1 := Nat.le_trans K_0.kept.1 z96
      have Nb_L_g9_1 : ¬ OB A g9_1 := fun h => by have := (Rv.rdv_ob O_L h).2; omega
      replace B_gd := kp_blk B_gd hk (fun h => h)
      replace B_g1 := kp_blk B_g1 hk (fun h => h)
      replace B_g7 := kp_blk B_g7 hk (fun h => h)
      replace B_g9_10 := kp_blk B_g9_10 hk (fun h => h)
      replace O_L := Rv.rdv_keep O_L hk (fun _ _ h => h)
      replace K_0 := K_0.then_ hk (fun _ h => h.elim)
      clear hk
      refine ⟨⟨B_g1, B_g7, trivial⟩, ?_⟩
      have n_g9_1_g9_10 := Ne.symm n_g9_10_g9_1
      have n_g9_1_gd := Ne.symm n_gd_g9_1
      exact dr9_10 g9_1 g9_10 _ a (En.sub hE ⟨rfl, rfl, rfl, rfl, rfl, rfl, rfl, rfl, rfl, rfl, rfl, rfl, rfl, rfl, rfl, rfl, rfl, rfl, rfl, rfl, rfl, rfl, rfl, trivial⟩) B_gd B_g1 B_g7 B_g9_1 B_g9_10 n_g1_g9_1 n_g1_g9_10 n_g1_gd n_g7_g9_1 n_g7_g9_10 n_g7_gd n_g9_1_g9_10 n_g9_1_gd n_g9_10_gd z_0_g9_1 z_0_g9_10 Nb_L_g9_1 Nb_L_g9_10 O_L K_0
     refine all_cons (d_lit (listed' := #[true, false, true, true, true, true, true, true, false, true, true, false, true, true, true, true, true, true, false, false, false, false, false]) rfl ?_) ?_
     ·
      refine (s_still p18_9_15 hE wn_none rfl (st_load1 tA22 rfl ((blk_cell B_gd 1).trans rfl)) ?_); clear hE a; intro a hE
      refine ⟨⟨B_g1, B_g7, trivial⟩, ?_⟩
      refine Rv.dq (listed' := #[true, false, true, true, true, true, true, true, false, true, true, false, true, true, true, true, true, true, true, false, false, false, false]) (v := Value.slice AD (L.length - (i + 1)) (c - (i + 1))) p18_9_18 ns18_9 hE wn_none ⟨B_g1, B_g7, trivial⟩ (fun W hS => (st_sliceL (lo := (i + 1)) (A' := AD) Tryd.underlying22 tS61 rfl rfl (by omega) rfl rfl hAD)) ?_ (fun c a w h => hQ c a _ _ w h); clear hE a; intro a hE
      exact dr9_15 g9_10 _ a (En.sub hE ⟨rfl, rfl, rfl, rfl, rfl, rfl, rfl, rfl, rfl, rfl, rfl, rfl, rfl, rfl, rfl, rfl, rfl, rfl, rfl, rfl, rfl, rfl, rfl, rfl, trivial⟩) B_gd B_g1 B_g7 B_g9_10 n_g1_g9_10 n_g1_gd n_g7_g9_10 n_g7_gd n_g9_10_gd z_0_g9_10 Nb_L_g9_10 O_L K_0
     exact all_nil
    have dr9_7 : ∀ (g9_1 : Nat) (W : World) (a : Act), En 118 a [(0, Value.pointer (some ⟨gd, 0, none⟩)), (1, Value.agg #[Value.int .i64 r.1, Value.int .i64 r.2.1, Value.int .i64 r.2.2.1, Value.int .i64 r.2.2.2]), (3, Value.pointer (some ⟨g1, 0, none⟩)), (5, Value.int .i64 (i : Int)), (6, Value.pointer (some ⟨g7, 0, none⟩)), (7, Value.int .i64 (cmpF r.2.2.1 o.2.2.1)), (11, Value.bool false), (17, Value.bool true), (43, Value.pointer (some ⟨gd, 0, none⟩)), (44, Value.slice (some ⟨g9_1, 0, none⟩) 0 0), (45, Value.pointer (some ⟨gd, 0, none⟩)), (46, Value.pointer (some ⟨gd, 0, none⟩)), (47, Value.pointer (some ⟨gd, 1, none⟩)), (48, Value.slice A L.length c), (49, Value.int .i64 (i : Int)), (50, Value.slice A i c), (52, Value.agg #[Value.int .i64 r.1, Value.int .i64 r.2.1, Value.int .i64 r.2.2.1, Value.int .i64 r.2.2.2]), (55, Value.pointer (some ⟨gd, 0, none⟩)), (56, Value.pointer (some ⟨gd, 0, none⟩)), (57, Value.pointer (some ⟨gd, 1, none⟩)), (59, Value.int .i64 (i : Int)), (60, Value.int .i64 ((i : Int) + 1))] → W.heap[gd]? = some (.cells #[Value.int .i64 32, Value.slice A L.length c] 56 (0, 0)) → W.heap[g1]? = some (.cells #[Value.int .i64 r.1, Value.int .i64 r.2.1, Value.int .i64 r.2.2.1, Value.int .i64 r.2.2.2] 61 (0, 0)) → W.heap[g7]? = some (.cells #[Value.int .i64 o.1, Value.int .i64 o.2.1, Value.int .i64 o.2.2.1, Value.int .i64 o.2.2.2] 61 (0, 0)) → W.heap[g9_1]? = some (.cells #[] 61 (0, 0)) → g1 ≠ g9_1 → g1 ≠ gd → g7 ≠ g9_1 → g7 ≠ gd → g9_1 ≠ gd → w.heap.size ≤ g9_1 → ¬ OB A g9_1 → Rv.RdV W A L.length 4 (flR L) → Kp w W (fun k => k = gd) → wpAnyH Tryd.prog .any (regOf Tryd.f18 9) QQ (fun W => W.heap[g1]? = some (.cells #[Value.int .i64 r.1, Value.int .i64 r.2.1, Value.int .i64 r.2.2.1, Value.int .i64 r.2.2.2] 61 (0, 0)) ∧ W.heap[g7]? = some (.cells #[Value.int .i64 o.1, Value.int .i64 o.2.1, Value.int .i64 o.2.2.1, Value.int .i64 o.2.2.2] 61 (0, 0)) ∧ True) 9 #[true, true, true, true, true, true, true, true, false, true, false, false, true, true, true, false, true, true, false, false, false, false, false] a W := by
     intro g9_1 w97 a hE B_gd B_g1 B_g7 B_g9_1 n_g1_g9_1 n_g1_gd n_g7_g9_1 n_g7_gd n_g9_1_gd z_0_g9_1 Nb_L_g9_1 O_L K_0
     refine d_all (rs := [8, 10, 15]) (by kernel_rfl) rfl ?_
     refine all_cons (d_lit (listed' := #[true, true, true, true, true, true, true, true, true, true, false, false, true, true, true, false, true, true, false, false, false, false, false]) rfl ?_) ?_
     ·
      have O_q9_8 := own_blk0 (s := 4) B_g9_1 (show w.heap.size ≤ g9_1 from z_0_g9_1)
      have Nb_q9_8_gd : ¬ OB (some ⟨g9_1, 0, none⟩) gd := fun h => by have h := ob_blk.1 h; exact n_g9_1_gd h
      have Nb_q9_8_g1 : ¬ OB (some ⟨g9_1, 0, none⟩) g1 := fun h => by have h := ob_blk.1 h; exact (Ne.symm n_g1_g9_1) h
      have Nb_q9_8_g7 : ¬ OB (some ⟨g9_1, 0, none⟩) g7 := fun h => by have h := ob_blk.1 h; exact (Ne.symm n_g7_g9_1) h
      have Z_0_q9_8 : ∀ k, OB (some ⟨g9_1, 0, none⟩) k → (fun k => k = gd) k ∨ w.heap.size ≤ k := fun k h => by have h := ob_blk.1 h; subst h; exact Or.inr z_0_g9_1
      have NN_q9_8_L : ∀ k, OB (some ⟨g9_1, 0, none⟩) k → ¬ OB A k := fun k h h2 => by have h := ob_blk.1 h; subst h; exact Nb_L_g9_1 h2
      have NN_L_q9_8 : ∀ k, OB A k → ¬ OB (some ⟨g9_1, 0, none⟩) k := fun k h h2 => NN_q9_8_L k h2 h
      refine (Rv.s_appendV (s := 4) (xs := []) p18_9_8 hE wn_none rfl Tryd.underlying22 eD61 (by decide) rfl O_q9_8 rfl (Rv.rdv_take O_L (by omega)) (by omega) (by omega) K_0.kept.1 ?_ hcA.2)
      clear hE a; intro A9_8 c9_8 w98 O_q9_8' hk hat a hE
      have Nb_q9_8_gd' := grow_n Nb_q9_8_gd (blk_lt B_gd) hat
      have Nb_q9_8_g1' := grow_n Nb_q9_8_g1 (blk_lt B_g1) hat
      have Nb_q9_8_g7' := grow_n Nb_q9_8_g7 (blk_lt B_g7) hat
      have NN_L_q9_8' : ∀ k, OB A k → ¬ OB A9_8 k := fun k h h2 => (hat k h2).elim (NN_L_q9_8 k h) (fun h3 => by have := (Rv.rdv_ob O_L h).2; omega)
      have Z_0_q9_8' := grow_z Z_0_q9_8 K_0.kept.1 hat
      replace B_gd := kp_blk B_gd hk Nb_q9_8_gd
      replace B_g1 := kp_blk B_g1 hk Nb_q9_8_g1
      replace B_g7 := kp_blk B_g7 hk Nb_q9_8_g7
      replace O_L := Rv.rdv_keep O_L hk NN_L_q9_8
      replace K_0 := K_0.then_ hk Z_0_q9_8
      replace Nb_q9_8_gd := Nb_q9_8_gd'
      replace Nb_q9_8_g1 := Nb_q9_8_g1'
      replace Nb_q9_8_g7 := Nb_q9_8_g7'
      replace NN_L_q9_8 := NN_L_q9_8'
      replace NN_q9_8_L : ∀ k, OB A9_8 k → ¬ OB A k := fun k h h2 => NN_L_q9_8 k h2 h
      replace Z_0_q9_8 := Z_0_q9_8'
      replace O_q9_8 := O_q9_8'
      try clear O_q9_8'
      clear hk hat
      refine ⟨⟨B_g1, B_g7, trivial⟩, ?_⟩
      exact dr9_11 A9_8 c9_8 g9_1 _ a (En.sub hE ⟨rfl, rfl, rfl, rfl, rfl, rfl, rfl, rfl, rfl, rfl, rfl, rfl, rfl, rfl, rfl, rfl, rfl, rfl, rfl, rfl, rfl, rfl, rfl, trivial⟩) B_gd B_g1 B_g7 n_g1_gd n_g7_gd NN_L_q9_8 Nb_q9_8_gd Nb_q9_8_g1 Nb_q9_8_g7 Z_0_q9_8 NN_q9_8_L O_L O_q9_8 K_0
     refine all_cons (d_lit (listed' := #[true, true, true, true, true, true, true, true, false, true, true, false, true, true, true, false, true, true, false, false, false, false, false]) rfl ?_) ?_
     ·
      refine (s_row (xs := [(0, Operand.tmp 52)]) (vs := [(0, Value.agg #[Value.int .i64 r.1, Value.int .i64 r.2.1, Value.int .i64 r.2.2.1, Value.int .i64 r.2.2.2])]) (cs := #[Value.int .i64 r.1, Value.int .i64 r.2.1, Value.int .i64 r.2.2.1, Value.int .i64 r.2.2.2]) p18_9_10 hE wn_none rfl Tryd.underlying22 rfl (by kernel_rfl) ?_)
      clear hE a; intro g9_10 w99 z100 B_g9_10 hk a hE
      have n_gd_g9_10 : gd ≠ g9_10 := ne_new B_gd z100
      have n_g1_g9_10 : g1 ≠ g9_10 := ne_new B_g1 z100
      have n_g7_g9_10 : g7 ≠ g9_10 := ne_new B_g7 z100
      have n_g9_1_g9_10 : g9_1 ≠ g9_10 := ne_new B_g9_1 z100
      have z_0_g9_10 := Nat.le_trans K_0.kept.1 z100
      have Nb_L_g9_10 : ¬ OB A g9_10 := fun h => by have := (Rv.rdv_ob O_L h).2; omega
      replace B_gd := kp_blk B_gd hk (fun h => h)
      replace B_g1 := kp_blk B_g1 hk (fun h => h)
      replace B_g7 := kp_blk B_g7 hk (fun h => h)
      replace B_g9_1 := kp_blk B_g9_1 hk (fun h => h)
      replace O_L := Rv.rdv_keep O_L hk (fun _ _ h => h)
      replace K_0 := K_0.then_ hk (fun _ h => h.elim)
      clear hk
      refine ⟨⟨B_g1, B_g7, trivial⟩, ?_⟩
      have n_g9_10_gd := Ne.symm n_gd_g9_10
      exact dr9_10 g9_1 g9_10 _ a (En.sub hE ⟨rfl, rfl, rfl, rfl, rfl, rfl, rfl, rfl, rfl, rfl, rfl, rfl, rfl, rfl, rfl, rfl, rfl, rfl, rfl, rfl, rfl, rfl, rfl, trivial⟩) B_gd B_g1 B_g7 B_g9_1 B_g9_10 n_g1_g9_1 n_g1_g9_10 n_g1_gd n_g7_g9_1 n_g7_g9_10 n_g7_gd n_g9_1_g9_10 n_g9_1_gd n_g9_10_gd z_0_g9_1 z_0_g9_10 Nb_L_g9_1 Nb_L_g9_10 O_L K_0
     refine all_cons (d_lit (listed' := #[true, true, true, true, true, true, true, true, false, true, false, false, true, true, true, true, true, true, false, false, false, false, false]) rfl ?_) ?_
     ·
      refine (s_still p18_9_15 hE wn_none rfl (st_load1 tA22 rfl ((blk_cell B_gd 1).trans rfl)) ?_); clear hE a; intro a hE
      refine ⟨⟨B_g1, B_g7, trivial⟩, ?_⟩
      refine Rv.dq (listed' := #[true, true, true, true, true, true, true, true, false, true, false, false, true, true, true, true, true, true, true, false, false, false, false]) (v := Value.slice AD (L.length - (i + 1)) (c - (i + 1))) p18_9_18 ns18_9 hE wn_none ⟨B_g1, B_g7, trivial⟩ (fun W hS => (st_sliceL (lo := (i + 1)) (A' := AD) Tryd.underlying22 tS61 rfl rfl (by omega) rfl rfl hAD)) ?_ (fun c a w h => hQ c a _ _ w h); clear hE a; intro a hE
      exact dr9_16 g9_1 _ a (En.sub hE ⟨rfl, rfl, rfl, rfl, rfl, rfl, rfl, rfl, rfl, rfl, rfl, rfl, rfl, rfl, rfl, rfl, rfl, rfl, rfl, rfl, rfl, rfl, rfl, rfl, trivial⟩) B_gd B_g1 B_g7 B_g9_1 n_g1_g9_1 n_g1_gd n_g7_g9_1 n_g7_gd n_g9_1_gd z_0_g9_1 Nb_L_g9_1 O_L K_0
     exact all_nil
    have dr9_6 : ∀ (g9_10 : Nat) (W : World) (a : Act), En 118 a [(0, Value.pointer (some ⟨gd, 0, none⟩)), (1, Value.agg #[Value.int .i64 r.1, Value.int .i64 r.2.1, Value.int .i64 r.2.2.1, Value.int .i64 r.2.2.2]), (3, Value.pointer (some ⟨g1, 0, none⟩)), (5, Value.int .i64 (i : Int)), (6, Value.pointer (some ⟨g7, 0, none⟩)), (7, Value.int .i64 (cmpF r.2.2.1 o.2.2.1)), (11, Value.bool false), (17, Value.bool true), (43, Value.pointer (some ⟨gd, 0, none⟩)), (45, Value.pointer (some ⟨gd, 0, none⟩)), (46, Value.pointer (some ⟨gd, 0, none⟩)), (47, Value.pointer (some ⟨gd, 1, none⟩)), (49, Value.int .i64 (i : Int)), (52, Value.agg #[Value.int .i64 r.1, Value.int .i64 r.2.1, Value.int .i64 r.2.2.1, Value.int .i64 r.2.2.2]), (53, Value.slice (some ⟨g9_10, 0, none⟩) 1 1), (55, Value.pointer (some ⟨gd, 0, none⟩)), (56, Value.pointer (some ⟨gd, 0, none⟩)), (57, Value.pointer (some ⟨gd, 1, none⟩)), (58, Value.slice A L.length c), (59, Value.int .i64 (i : Int)), (60, Value.int .i64 ((i : Int) + 1)), (61, Value.slice AD (L.length - (i + 1)) (c - (i + 1)))] → W.heap[gd]? = some (.cells #[Value.int .i64 32, Value.slice A L.length c] 56 (0, 0)) → W.heap[g1]? = some (.cells #[Value.int .i64 r.1, Value.int .i64 r.2.1, Value.int .i64 r.2.2.1, Value.int .i64 r.2.2.2] 61 (0, 0)) → W.heap[g7]? = some (.cells #[Value.int .i64 o.1, Value.int .i64 o.2.1, Value.int .i64 o.2.2.1, Value.int .i64 o.2.2.2] 61 (0, 0)) → W.heap[g9_10]? = some (.cells #[Value.int .i64 r.1, Value.int .i64 r.2.1, Value.int .i64 r.2.2.1, Value.int .i64 r.2.2.2] 61 (0, 0)) → g1 ≠ g9_10 → g1 ≠ gd → g7 ≠ g9_10 → g7 ≠ gd → g9_10 ≠ gd → w.heap.size ≤ g9_10 → ¬ OB A g9_10 → Rv.RdV W A L.length 4 (flR L) → Kp w W (fun k => k = gd) → wpAnyH Tryd.prog .any (regOf Tryd.f18 9) QQ (fun W => W.heap[g1]? = some (.cells #[Value.int .i64 r.1, Value.int .i64 r.2.1, Value.int .i64 r.2.2.1, Value.int .i64 r.2.2.2] 61 (0, 0)) ∧ W.heap[g7]? = some (.cells #[Value.int .i64 o.1, Value.int .i64 o.2.1, Value.int .i64 o.2.2.1, Value.int .i64 o.2.2.2] 61 (0, 0)) ∧ True) 9 #[true, false, true, true, true, false, true, false, false, true, true, false, true, true, true, true, true, true, true, false, false, false, false] a W := by
     intro g9_10 w101 a hE B_gd B_g1 B_g7 B_g9_10 n_g1_g9_10 n_g1_gd n_g7_g9_10 n_g7_gd n_g9_10_gd z_0_g9_10 Nb_L_g9_10 O_L K_0
     refine d_all (rs := [1, 5]) (by kernel_rfl) rfl ?_
     refine all_cons (d_lit (listed' := #[true, true, true, true, true, false, true, false, false, true, true, false, true, true, true, true, true, true, true, false, false, false, false]) rfl ?_) ?_
     ·
      refine (s_row (xs := []) (vs := []) (cs := #[]) p18_9_1 hE wn_none rfl Tryd.underlying22 rfl (by kernel_rfl) ?_)
      clear hE a; intro g9_1 w102 z103 B_g9_1 hk a hE
      have n_gd_g9_1 : gd ≠ g9_1 := ne_new B_gd z103
      have n_g1_g9_1 : g1 ≠ g9_1 := ne_new B_g1 z103
      have n_g7_g9_1 : g7 ≠ g9_1 := ne_new B_g7 z103
      have n_g9_10_g9_1 : g9_10 ≠ g9_1 := ne_new B_g9_10 z103
      have z_0_g9_1 := Nat.le_trans K_0.kept.1 z103
      have Nb_L_g9_1 : ¬ OB A g9_1 := fun h => by have := (Rv.rdv_ob O_L h).2; omega
      replace B_gd := kp_blk B_gd hk (fun h => h)
      replace B_g1 := kp_blk B_g1 hk (fun h => h)
      replace B_g7 := kp_blk B_g7 hk (fun h => h)
      replace B_g9_10 := kp_blk B_g9_10 hk (fun h => h)
      replace O_L := Rv.rdv_keep O_L hk (fun _ _ h => h)
      replace K_0 := K_0.then_ hk (fun _ h => h.elim)
      clear hk
      refine ⟨⟨B_g1, B_g7, trivial⟩, ?_⟩
      have n_g9_1_g9_10 := Ne.symm n_g9_10_g9_1
      have n_g9_1_gd := Ne.symm n_gd_g9_1
      exact dr9_12 g9_1 g9_10 _ a (En.sub hE ⟨rfl, rfl, rfl, rfl, rfl, rfl, rfl, rfl, rfl, rfl, rfl, rfl, rfl, rfl, rfl, rfl, rfl, rfl, rfl, rfl, rfl, rfl, rfl, trivial⟩) B_gd B_g1 B_g7 B_g9_1 B_g9_10 n_g1_g9_1 n_g1_g9_10 n_g1_gd n_g7_g9_1 n_g7_g9_10 n_g7_gd n_g9_1_g9_10 n_g9_1_gd n_g9_10_gd z_0_g9_1 z_0_g9_10 Nb_L_g9_1 Nb_L_g9_10 O_L K_0
     refine all_cons (d_lit (listed' := #[true, false, true, true, true, true, true, false, false, true, true, false, true, true, true, true, true, true, true, false, false, false, false]) rfl ?_) ?_
     ·
      refine (s_still p18_9_5 hE wn_none rfl (st_load1 tA22 rfl ((blk_cell B_gd 1).trans rfl)) ?_); clear hE a; intro a hE
      refine ⟨⟨B_g1, B_g7, trivial⟩, ?_⟩
      refine Rv.dq (listed' := #[true, false, true, true, true, true, true, true, false, true, true, false, true, true, true, true, true, true, true, false, false, false, false]) (v := Value.slice A i c) p18_9_7 ns18_9 hE wn_none ⟨B_g1, B_g7, trivial⟩ (fun W hS => (st_sliceH (h := i) Tryd.underlying22 tS61 rfl rfl (by omega))) ?_ (fun c a w h => hQ c a _ _ w h); clear hE a; intro a hE
      exact dr9_15 g9_10 _ a (En.sub hE ⟨rfl, rfl, rfl, rfl, rfl, rfl, rfl, rfl, rfl, rfl, rfl, rfl, rfl, rfl, rfl, rfl, rfl, rfl, rfl, rfl, rfl, rfl, rfl, rfl, trivial⟩) B_gd B_g1 B_g7 B_g9_10 n_g1_g9_10 n_g1_gd n_g7_g9_10 n_g7_gd n_g9_10_gd z_0_g9_10 Nb_L_g9_10 O_L K_0
     exact all_nil
    have dr9_5 : ∀ (W : World) (a : Act), En 118 a [(0, Value.pointer (some ⟨gd, 0, none⟩)), (1, Value.agg #[Value.int .i64 r.1, Value.int .i64 r.2.1, Value.int .i64 r.2.2.1, Value.int .i64 r.2.2.2]), (3, Value.pointer (some ⟨g1, 0, none⟩)), (5, Value.int .i64 (i : Int)), (6, Value.pointer (some ⟨g7, 0, none⟩)), (7, Value.int .i64 (cmpF r.2.2.1 o.2.2.1)), (11, Value.bool false), (17, Value.bool true), (43, Value.pointer (some ⟨gd, 0, none⟩)), (45, Value.pointer (some ⟨gd, 0, none⟩)), (46, Value.pointer (some ⟨gd, 0, none⟩)), (47, Value.pointer (some ⟨gd, 1, none⟩)), (49, Value.int .i64 (i : Int)), (52, Value.agg #[Value.int .i64 r.1, Value.int .i64 r.2.1, Value.int .i64 r.2.2.1, Value.int .i64 r.2.2.2]), (55, Value.pointer (some ⟨gd, 0, none⟩)), (56, Value.pointer (some ⟨gd, 0, none⟩)), (57, Value.pointer (some ⟨gd, 1, none⟩)), (58, Value.slice A L.length c), (59, Value.int .i64 (i : Int)), (60, Value.int .i64 ((i : Int) + 1)), (61, Value.slice AD (L.length - (i + 1)) (c - (i + 1)))] → W.heap[gd]? = some (.cells #[Value.int .i64 32, Value.slice A L.length c] 56 (0, 0)) → W.heap[g1]? = some (.cells #[Value.int .i64 r.1, Value.int .i64 r.2.1, Value.int .i64 r.2.2.1, Value.int .i64 r.2.2.2] 61 (0, 0)) → W.heap[g7]? = some (.cells #[Value.int .i64 o.1, Value.int .i64 o.2.1, Value.int .i64 o.2.2.1, Value.int .i64 o.2.2.2] 61 (0, 0)) → g1 ≠ gd → g7 ≠ gd → Rv.RdV W A L.length 4 (flR L) → Kp w W (fun k => k = gd) → wpAnyH Tryd.prog .any (regOf Tryd.f18 9) QQ (fun W => W.heap[g1]? = some (.cells #[Value.int .i64 r.1, Value.int .i64 r.2.1, Value.int .i64 r.2.2.1, Value.int .i64 r.2.2.2] 61 (0, 0)) ∧ W.heap[g7]? = some (.cells #[Value.int .i64 o.1, Value.int .i64 o.2.1, Value.int .i64 o.2.2.1, Value.int .i64 o.2.2.2] 61 (0, 0)) ∧ True) 10 #[true, false, true, true, true, false, true, false, false, true, false, false, true, true, true, true, true, true, true, false, false, false, false] a W := by
     intro w104 a hE B_gd B_g1 B_g7 n_g1_gd n_g7_gd O_L K_0
     refine d_all (rs := [1, 5, 10]) (by kernel_rfl) rfl ?_
     refine all_cons (d_lit (listed' := #[true, true, true, true, true, false, true, false, false, true, false, false, true, true, true, true, true, true, true, false, false, false, false]) rfl ?_) ?_
     ·
      refine (s_row (xs := []) (vs := []) (cs := #[]) p18_9_1 hE wn_none rfl Tryd.underlying22 rfl (by kernel_rfl) ?_)
      clear hE a; intro g9_1 w105 z106 B_g9_1 hk a hE
      have n_gd_g9_1 : gd ≠ g9_1 := ne_new B_gd z106
      have n_g1_g9_1 : g1 ≠ g9_1 := ne_new B_g1 z106
      have n_g7_g9_1 : g7 ≠ g9_1 := ne_new B_g7 z106
      have z_0_g9_1 := Nat.le_trans K_0.kept.1 z106
      have Nb_L_g9_1 : ¬ OB A g9_1 := fun h => by have := (Rv.rdv_ob O_L h).2; omega
      replace B_gd := kp_blk B_gd hk (fun h => h)
      replace B_g1 := kp_blk B_g1 hk (fun h => h)
      replace B_g7 := kp_blk B_g7 hk (fun h => h)
      replace O_L := Rv.rdv_keep O_L hk (fun _ _ h => h)
      replace K_0 := K_0.then_ hk (fun _ h => h.elim)
      clear hk
      refine ⟨⟨B_g1, B_g7, trivial⟩, ?_⟩
      have n_g9_1_gd := Ne.symm n_gd_g9_1
      exact dr9_9 g9_1 _ a (En.sub hE ⟨rfl, rfl, rfl, rfl, rfl, rfl, rfl, rfl, rfl, rfl, rfl, rfl, rfl, rfl, rfl, rfl, rfl, rfl, rfl, rfl, rfl, rfl, trivial⟩) B_gd B_g1 B_g7 B_g9_1 n_g1_g9_1 n_g1_gd n_g7_g9_1 n_g7_gd n_g9_1_gd z_0_g9_1 Nb_L_g9_1 O_L K_0
     refine all_cons (d_lit (listed' := #[true, false, true, true, true, true, true, false, false, true, false, false, true, true, true, true, true, true, true, false, false, false, false]) rfl ?_) ?_
     ·
      refine (s_still p18_9_5 hE wn_none rfl (st_load1 tA22 rfl ((blk_cell B_gd 1).trans rfl)) ?_); clear hE a; intro a hE
      refine ⟨⟨B_g1, B_g7, trivial⟩, ?_⟩
      refine Rv.dq (listed' := #[true, false, true, true, true, true, true, true, false, true, false, false, true, true, true, true, true, true, true, false, false, false, false]) (v := Value.slice A i c) p18_9_7 ns18_9 hE wn_none ⟨B_g1, B_g7, trivial⟩ (fun W hS => (st_sliceH (h := i) Tryd.underlying22 tS61 rfl rfl (by omega))) ?_ (fun c a w h => hQ c a _ _ w h); clear hE a; intro a hE
      exact dr9_13 _ a (En.sub hE ⟨rfl, rfl, rfl, rfl, rfl, rfl, rfl, rfl, rfl, rfl, rfl, rfl, rfl, rfl, rfl, rfl, rfl, rfl, rfl, rfl, rfl, rfl, rfl, trivial⟩) B_gd B_g1 B_g7 n_g1_gd n_g7_gd O_L K_0
     refine all_cons (d_lit (listed' := #[true, false, true, true, true, false, true, false, false, true, true, false, true, true, true, true, true, true, true, false, false, false, false]) rfl ?_) ?_
     ·
      refine (s_row (xs := [(0, Operand.tmp 52)]) (vs := [(0, Value.agg #[Value.int .i64 r.1, Value.int .i64 r.2.1, Value.int .i64 r.2.2.1, Value.int .i64 r.2.2.2])]) (cs := #[Value.int .i64 r.1, Value.int .i64 r.2.1, Value.int .i64 r.2.2.1, Value.int .i64 r.2.2.2]) p18_9_10 hE wn_none rfl Tryd.underlying22 rfl (by kernel_rfl) ?_)
      clear hE a; intro g9_10 w107 z108 B_g9_10 hk a hE
      have n_gd_g9_10 : gd ≠ g9_10 := ne_new B_gd z108
      have n_g1_g9_10 : g1 ≠ g9_10 := ne_new B_g1 z108
      have n_g7_g9_10 : g7 ≠ g9_10 := ne_new B_g7 z108
      have z_0_g9_10 := Nat.le_trans K_0.kept.1 z108
      have Nb_L_g9_10 : ¬ OB A g9_10 := fun h => by have := (Rv.rdv_ob O_L h).2; omega
      replace B_gd := kp_blk B_gd hk (fun h => h)
      replace B_g1 := kp_blk B_g1 hk (fun h => h)
      replace B_g7 := kp_blk B_g7 hk (fun h => h)
      replace O_L := Rv.rdv_keep O_L hk (fun _ _ h => h)
      replace K_0 := K_0.then_ hk (fun _ h => h.elim)
      clear hk
      refine ⟨⟨B_g1, B_g7, trivial⟩, ?_⟩
      have n_g9_10_gd := Ne.symm n_gd_g9_10
      exact dr9_6 g9_10 _ a (En.sub hE ⟨rfl, rfl, rfl, rfl, rfl, rfl, rfl, rfl, rfl, rfl, rfl, rfl, rfl, rfl, rfl, rfl, rfl, rfl, rfl, rfl, rfl, rfl, trivial⟩) B_gd B_g1 B_g7 B_g9_10 n_g1_g9_10 n_g1_gd n_g7_g9_10 n_g7_gd n_g9_10_gd z_0_g9_10 Nb_L_g9_10 O_L K_0
     exact all_nil
    have dr9_4 : ∀ (g9_1 : Nat) (g9_10 : Nat) (W : World) (a : Act), En 118 a [(0, Value.pointer (some ⟨gd, 0, none⟩)), (1, Value.agg #[Value.int .i64 r.1, Value.int .i64 r.2.1, Value.int .i64 r.2.2.1, Value.int .i64 r.2.2.2]), (3, Value.pointer (some ⟨g1, 0, none⟩)), (5, Value.int .i64 (i : Int)), (6, Value.pointer (some ⟨g7, 0, none⟩)), (7, Value.int .i64 (cmpF r.2.2.1 o.2.2.1)), (11, Value.bool false), (17, Value.bool true), (43, Value.pointer (some ⟨gd, 0, none⟩)), (44, Value.slice (some ⟨g9_1, 0, none⟩) 0 0), (45, Value.pointer (some ⟨gd, 0, none⟩)), (46, Value.pointer (some ⟨gd, 0, none⟩)), (47, Value.pointer (some ⟨gd, 1, none⟩)), (49, Value.int .i64 (i : Int)), (52, Value.agg #[Value.int .i64 r.1, Value.int .i64 r.2.1, Value.int .i64 r.2.2.1, Value.int .i64 r.2.2.2]), (53, Value.slice (some ⟨g9_10, 0, none⟩) 1 1), (55, Value.pointer (some ⟨gd, 0, none⟩)), (56, Value.pointer (some ⟨gd, 0, none⟩)), (57, Value.pointer (some ⟨gd, 1, none⟩)), (59, Value.int .i64 (i : Int)), (60, Value.int .i64 ((i : Int) + 1))] → W.heap[gd]? = some (.cells #[Value.int .i64 32, Value.slice A L.length c] 56 (0, 0)) → W.heap[g1]? = some (.cells #[Value.int .i64 r.1, Value.int .i64 r.2.1, Value.int .i64 r.2.2.1, Value.int .i64 r.2.2.2] 61 (0, 0)) → W.heap[g7]? = some (.cells #[Value.int .i64 o.1, Value.int .i64 o.2.1, Value.int .i64 o.2.2.1, Value.int .i64 o.2.2.2] 61 (0, 0)) → W.heap[g9_1]? = some (.cells #[] 61 (0, 0)) → W.heap[g9_10]? = some (.cells #[Value.int .i64 r.1, Value.int .i64 r.2.1, Value.int .i64 r.2.2.1, Value.int .i64 r.2.2.2] 61 (0, 0)) → g1 ≠ g9_1 → g1 ≠ g9_10 → g1 ≠ gd → g7 ≠ g9_1 → g7 ≠ g9_10 → g7 ≠ gd → g9_1 ≠ g9_10 → g9_1 ≠ gd → g9_10 ≠ gd → w.heap.size ≤ g9_1 → w.heap.size ≤ g9_10 → ¬ OB A g9_1 → ¬ OB A g9_10 → Rv.RdV W A L.length 4 (flR L) → Kp w W (fun k => k = gd) → wpAnyH Tryd.prog .any (regOf Tryd.f18 9) QQ (fun W => W.heap[g1]? = some (.cells #[Value.int .i64 r.1, Value.int .i64 r.2.1, Value.int .i64 r.2.2.1, Value.int .i64 r.2.2.2] 61 (0, 0)) ∧ W.heap[g7]? = some (.cells #[Value.int .i64 o.1, Value.int .i64 o.2.1, Value.int .i64 o.2.2.1, Value.int .i64 o.2.2.2] 61 (0, 0)) ∧ True) 10 #[true, true, true, true, true, false, true, false, false, true, true, false, true, true, true, false, true, true, false, false, false, false, false] a W := by
     intro g9_1 g9_10 w109 a hE B_gd B_g1 B_g7 B_g9_1 B_g9_10 n_g1_g9_1 n_g1_g9_10 n_g1_gd n_g7_g9_1 n_g7_g9_10 n_g7_gd n_g9_1_g9_10 n_g9_1_gd n_g9_10_gd z_0_g9_1 z_0_g9_10 Nb_L_g9_1 Nb_L_g9_10 O_L K_0
     refine d_all (rs := [5, 15]) (by kernel_rfl) rfl ?_
     refine all_cons (d_lit (listed' := #[true, true, true, true, true, true, true, false, false, true, true, false, true, true, true, false, true, true, false, false, false, false, false]) rfl ?_) ?_
     ·
      refine (s_still p18_9_5 hE wn_none rfl (st_load1 tA22 rfl ((blk_cell B_gd 1).trans rfl)) ?_); clear hE a; intro a hE
      refine ⟨⟨B_g1, B_g7, trivial⟩, ?_⟩
      refine Rv.dq (listed' := #[true, true, true, true, true, true, true, true, false, true, true, false, true, true, true, false, true, true, false, false, false, false, false]) (v := Value.slice A i c) p18_9_7 ns18_9 hE wn_none ⟨B_g1, B_g7, trivial⟩ (fun W hS => (st_sliceH (h := i) Tryd.underlying22 tS61 rfl rfl (by omega))) ?_ (fun c a w h => hQ c a _ _ w h); clear hE a; intro a hE
      exact dr9_10 g9_1 g9_10 _ a (En.sub hE ⟨rfl, rfl, rfl, rfl, rfl, rfl, rfl, rfl, rfl, rfl, rfl, rfl, rfl, rfl, rfl, rfl, rfl, rfl, rfl, rfl, rfl, rfl, rfl, trivial⟩) B_gd B_g1 B_g7 B_g9_1 B_g9_10 n_g1_g9_1 n_g1_g9_10 n_g1_gd n_g7_g9_1 n_g7_g9_10 n_g7_gd n_g9_1_g9_10 n_g9_1_gd n_g9_10_gd z_0_g9_1 z_0_g9_10 Nb_L_g9_1 Nb_L_g9_10 O_L K_0
     refine all_cons (d_lit (listed' := #[true, true, true, true, true, false, true, false, false, true, true, false, true, true, true, true, true, true, false, false, false, false, false]) rfl ?_) ?_
     ·
      refine (s_still p18_9_15 hE wn_none rfl (st_load1 tA22 rfl ((blk_cell B_gd 1).trans rfl)) ?_); clear hE a; intro a hE
      refine ⟨⟨B_g1, B_g7, trivial⟩, ?_⟩
      refine Rv.dq (listed' := #[true, true, true, true, true, false, true, false, false, true, true, false, true, true, true, true, true, true, true, false, false, false, false]) (v := Value.slice AD (L.length - (i + 1)) (c - (i + 1))) p18_9_18 ns18_9 hE wn_none ⟨B_g1, B_g7, trivial⟩ (fun W hS => (st_sliceL (lo := (i + 1)) (A' := AD) Tryd.underlying22 tS61 rfl rfl (by omega) rfl rfl hAD)) ?_ (fun c a w h => hQ c a _ _ w h); clear hE a; intro a hE
      exact dr9_12 g9_1 g9_10 _ a (En.sub hE ⟨rfl, rfl, rfl, rfl, rfl, rfl, rfl, rfl, rfl, rfl, rfl, rfl, rfl, rfl, rfl, rfl, rfl, rfl, rfl, rfl, rfl, rfl, rfl, trivial⟩) B_gd B_g1 B_g7 B_g9_1 B_g9_10 n_g1_g9_1 n_g1_g9_10 n_g1_gd n_g7_g9_1 n_g7_g9_10 n_g7_gd n_g9_1_g9_10 n_g9_1_gd n_g9_10_gd z_0_g9_1 z_0_g9_10 Nb_L_g9_1 Nb_L_g9_10 O_L K_0
     exact all_nil
    have dr9_3 : ∀ (W : World) (a : Act), En 118 a [(0, Value.pointer (some ⟨gd, 0, none⟩)), (1, Value.agg #[Value.int .i64 r.1, Value.int .i64 r.2.1, Value.int .i64 r.2.2.1, Value.int .i64 r.2.2.2]), (3, Value.pointer (some ⟨g1, 0, none⟩)), (5, Value.int .i64 (i : Int)), (6, Value.pointer (some ⟨g7, 0, none⟩)), (7, Value.int .i64 (cmpF r.2.2.1 o.2.2.1)), (11, Value.bool false), (17, Value.bool true), (43, Value.pointer (some ⟨gd, 0, none⟩)), (45, Value.pointer (some ⟨gd, 0, none⟩)), (46, Value.pointer (some ⟨gd, 0, none⟩)), (47, Value.pointer (some ⟨gd, 1, none⟩)), (48, Value.slice A L.length c), (49, Value.int .i64 (i : Int)), (50, Value.slice A i c), (52, Value.agg #[Value.int .i64 r.1, Value.int .i64 r.2.1, Value.int .i64 r.2.2.1, Value.int .i64 r.2.2.2]), (55, Value.pointer (some ⟨gd, 0, none⟩)), (56, Value.pointer (some ⟨gd, 0, none⟩)), (57, Value.pointer (some ⟨gd, 1, none⟩)), (59, Value.int .i64 (i : Int)), (60, Value.int .i64 ((i : Int) + 1))] → W.heap[gd]? = some (.cells #[Value.int .i64 32, Value.slice A L.length c] 56 (0, 0)) → W.heap[g1]? = some (.cells #[Value.int .i64 r.1, Value.int .i64 r.2.1, Value.int .i64 r.2.2.1, Value.int .i64 r.2.2.2] 61 (0, 0)) → W.heap[g7]? = some (.cells #[Value.int .i64 o.1, Value.int .i64 o.2.1, Value.int .i64 o.2.2.1, Value.int .i64 o.2.2.2] 61 (0, 0)) → g1 ≠ gd → g7 ≠ gd → Rv.RdV W A L.length 4 (flR L) → Kp w W (fun k => k = gd) → wpAnyH Tryd.prog .any (regOf Tryd.f18 9) QQ (fun W => W.heap[g1]? = some (.cells #[Value.int .i64 r.1, Value.int .i64 r.2.1, Value.int .i64 r.2.2.1, Value.int .i64 r.2.2.2] 61 (0, 0)) ∧ W.heap[g7]? = some (.cells #[Value.int .i64 o.1, Value.int .i64 o.2.1, Value.int .i64 o.2.2.1, Value.int .i64 o.2.2.2] 61 (0, 0)) ∧ True) 10 #[true, false, true, true, true, true, true, true, false, true, false, false, true, true, true, false, true, true, false, false, false, false, false] a W := by
     intro w110 a hE B_gd B_g1 B_g7 n_g1_gd n_g7_gd O_L K_0
     refine d_all (rs := [1, 10, 15]) (by kernel_rfl) rfl ?_
     refine all_cons (d_lit (listed' := #[true, true, true, true, true, true, true, true, false, true, false, false, true, true, true, false, true, true, false, false, false, false, false]) rfl ?_) ?_
     ·
      refine (s_row (xs := []) (vs := []) (cs := #[]) p18_9_1 hE wn_none rfl Tryd.underlying22 rfl (by kernel_rfl) ?_)
      clear hE a; intro g9_1 w111 z112 B_g9_1 hk a hE
      have n_gd_g9_1 : gd ≠ g9_1 := ne_new B_gd z112
      have n_g1_g9_1 : g1 ≠ g9_1 := ne_new B_g1 z112
      have n_g7_g9_1 : g7 ≠ g9_1 := ne_new B_g7 z112
      have z_0_g9_1 := Nat.le_trans K_0.kept.1 z112
      have Nb_L_g9_1 : ¬ OB A g9_1 := fun h => by have := (Rv.rdv_ob O_L h).2; omega
      replace B_gd := kp_blk B_gd hk (fun h => h)
      replace B_g1 := kp_blk B_g1 hk (fun h => h)
      replace B_g7 := kp_blk B_g7 hk (fun h => h)
      replace O_L := Rv.rdv_keep O_L hk (fun _ _ h => h)
      replace K_0 := K_0.then_ hk (fun _ h => h.elim)
      clear hk
      refine ⟨⟨B_g1, B_g7, trivial⟩, ?_⟩
      have n_g9_1_gd := Ne.symm n_gd_g9_1
      exact dr9_7 g9_1 _ a (En.sub hE ⟨rfl, rfl, rfl, rfl, rfl, rfl, rfl, rfl, rfl, rfl, rfl, rfl, rfl, rfl, rfl, rfl, rfl, rfl, rfl, rfl, rfl, rfl, trivial⟩) B_gd B_g1 B_g7 B_g9_1 n_g1_g9_1 n_g1_gd n_g7_g9_1 n_g7_gd n_g9_1_gd z_0_g9_1 Nb_L_g9_1 O_L K_0
     refine all_cons (d_lit (listed' := #[true, false, true, true, true, true, true, true, false, true, true, false, true, true, true, false, true, true, false, false, false, false, false]) rfl ?_) ?_
     ·
      refine (s_row (xs := [(0, Operand.tmp 52)]) (vs := [(0, Value.agg #[Value.int .i64 r.1, Value.int .i64 r.2.1, Value.int .i64 r.2.2.1, Value.int .i64 r.2.2.2])]) (cs := #[Value.int .i64 r.1, Value.int .i64 r.2.1, Value.int .i64 r.2.2.1, Value.int .i64 r.2.2.2]) p18_9_10 hE wn_none rfl Tryd.underlying22 rfl (by kernel_rfl) ?_)
      clear hE a; intro g9_10 w113 z114 B_g9_10 hk a hE
      have n_gd_g9_10 : gd ≠ g9_10 := ne_new B_gd z114
      have n_g1_g9_10 : g1 ≠ g9_10 := ne_new B_g1 z114
      have n_g7_g9_10 : g7 ≠ g9_10 := ne_new B_g7 z114
      have z_0_g9_10 := Nat.le_trans K_0.kept.1 z114
      have Nb_L_g9_10 : ¬ OB A g9_10 := fun h => by have := (Rv.rdv_ob O_L h).2; omega
      replace B_gd := kp_blk B_gd hk (fun h => h)
      replace B_g1 := kp_blk B_g1 hk (fun h => h)
      replace B_g7 := kp_blk B_g7 hk (fun h => h)
      replace O_L := Rv.rdv_keep O_L hk (fun _ _ h => h)
      replace K_0 := K_0.then_ hk (fun _ h => h.elim)
      clear hk
      refine ⟨⟨B_g1, B_g7, trivial⟩, ?_⟩
      have n_g9_10_gd := Ne.symm n_gd_g9_10
      exact dr9_8 g9_10 _ a (En.sub hE ⟨rfl, rfl, rfl, rfl, rfl, rfl, rfl, rfl, rfl, rfl, rfl, rfl, rfl, rfl, rfl, rfl, rfl, rfl, rfl, rfl, rfl, rfl, trivial⟩) B_gd B_g1 B_g7 B_g9_10 n_g1_g9_10 n_g1_gd n_g7_g9_10 n_g7_gd n_g9_10_gd z_0_g9_10 Nb_L_g9_10 O_L K_0
     refine all_cons (d_lit (listed' := #[true, false, true, true, true, true, true, true, false, true, false, false, true, true, true, true, true, true, false, false, false, false, false]) rfl ?_) ?_
     ·
      refine (s_still p18_9_15 hE wn_none rfl (st_load1 tA22 rfl ((blk_cell B_gd 1).trans rfl)) ?_); clear hE a; intro a hE
      refine ⟨⟨B_g1, B_g7, trivial⟩, ?_⟩
      refine Rv.dq (listed' := #[true, false, true, true, true, true, true, true, false, true, false, false, true, true, true, true, true, true, true, false, false, false, false]) (v := Value.slice AD (L.length - (i + 1)) (c - (i + 1))) p18_9_18 ns18_9 hE wn_none ⟨B_g1, B_g7, trivial⟩ (fun W hS => (st_sliceL (lo := (i + 1)) (A' := AD) Tryd.underlying22 tS61 rfl rfl (by omega) rfl rfl hAD)) ?_ (fun c a w h => hQ c a _ _ w h); clear hE a; intro a hE
      exact dr9_13 _ a (En.sub hE ⟨rfl, rfl, rfl, rfl, rfl, rfl, rfl, rfl, rfl, rfl, rfl, rfl, rfl, rfl, rfl, rfl, rfl, rfl, rfl, rfl, rfl, rfl, rfl, trivial⟩) B_gd B_g1 B_g7 n_g1_gd n_g7_gd O_L K_0
     exact all_nil
    have dr9_2 : ∀ (g9_10 : Nat) (W : World) (a : Act), En 118 a [(0, Value.pointer (some ⟨gd, 0, none⟩)), (1, Value.agg #[Value.int .i64 r.1, Value.int .i64 r.2.1, Value.int .i64 r.2.2.1, Value.int .i64 r.2.2.2]), (3, Value.pointer (some ⟨g1, 0, none⟩)), (5, Value.int .i64 (i : Int)), (6, Value.pointer (some ⟨g7, 0, none⟩)), (7, Value.int .i64 (cmpF r.2.2.1 o.2.2.1)), (11, Value.bool false), (17, Value.bool true), (43, Value.pointer (some ⟨gd, 0, none⟩)), (45, Value.pointer (some ⟨gd, 0, none⟩)), (46, Value.pointer (some ⟨gd, 0, none⟩)), (47, Value.pointer (some ⟨gd, 1, none⟩)), (49, Value.int .i64 (i : Int)), (52, Value.agg #[Value.int .i64 r.1, Value.int .i64 r.2.1, Value.int .i64 r.2.2.1, Value.int .i64 r.2.2.2]), (53, Value.slice (some ⟨g9_10, 0, none⟩) 1 1), (55, Value.pointer (some ⟨gd, 0, none⟩)), (56, Value.pointer (some ⟨gd, 0, none⟩)), (57, Value.pointer (some ⟨gd, 1, none⟩)), (59, Value.int .i64 (i : Int)), (60, Value.int .i64 ((i : Int) + 1))] → W.heap[gd]? = some (.cells #[Value.int .i64 32, Value.slice A L.length c] 56 (0, 0)) → W.heap[g1]? = some (.cells #[Value.int .i64 r.1, Value.int .i64 r.2.1, Value.int .i64 r.2.2.1, Value.int .i64 r.2.2.2] 61 (0, 0)) → W.heap[g7]? = some (.cells #[Value.int .i64 o.1, Value.int .i64 o.2.1, Value.int .i64 o.2.2.1, Value.int .i64 o.2.2.2] 61 (0, 0)) → W.heap[g9_10]? = some (.cells #[Value.int .i64 r.1, Value.int .i64 r.2.1, Value.int .i64 r.2.2.1, Value.int .i64 r.2.2.2] 61 (0, 0)) → g1 ≠ g9_10 → g1 ≠ gd → g7 ≠ g9_10 → g7 ≠ gd → g9_10 ≠ gd → w.heap.size ≤ g9_10 → ¬ OB A g9_10 → Rv.RdV W A L.length 4 (flR L) → Kp w W (fun k => k = gd) → wpAnyH Tryd.prog .any (regOf Tryd.f18 9) QQ (fun W => W.heap[g1]? = some (.cells #[Value.int .i64 r.1, Value.int .i64 r.2.1, Value.int .i64 r.2.2.1, Value.int .i64 r.2.2.2] 61 (0, 0)) ∧ W.heap[g7]? = some (.cells #[Value.int .i64 o.1, Value.int .i64 o.2.1, Value.int .i64 o.2.2.1, Value.int .i64 o.2.2.2] 61 (0, 0)) ∧ True) 11 #[true, false, true, true, true, false, true, false, false, true, true, false, true, true, true, false, true, true, false, false, false, false, false] a W := by
     intro g9_10 w115 a hE B_gd B_g1 B_g7 B_g9_10 n_g1_g9_10 n_g1_gd n_g7_g9_10 n_g7_gd n_g9_10_gd z_0_g9_10 Nb_L_g9_10 O_L K_0
     refine d_all (rs := [1, 5, 15]) (by kernel_rfl) rfl ?_
     refine all_cons (d_lit (listed' := #[true, true, true, true, true, false, true, false, false, true, true, false, true, true, true, false, true, true, false, false, false, false, false]) rfl ?_) ?_
     ·
      refine (s_row (xs := []) (vs := []) (cs := #[]) p18_9_1 hE wn_none rfl Tryd.underlying22 rfl (by kernel_rfl) ?_)
      clear hE a; intro g9_1 w116 z117 B_g9_1 hk a hE
      have n_gd_g9_1 : gd ≠ g9_1 := ne_new B_gd z117
      have n_g1_g9_1 : g1 ≠ g9_1 := ne_new B_g1 z117
      have n_g7_g9_1 : g7 ≠ g9_1 := ne_new B_g7 z117
      have n_g9_10_g9_1 : g9_10 ≠ g9_1 := ne_new B_g9_10 z117
      have z_0_g9_1 := Nat.le_trans K_0.kept.1 z117
      have Nb_L_g9_1 : ¬ OB A g9_1 := fun h => by have := (Rv.rdv_ob O_L h).2; omega
      replace B_gd := kp_blk B_gd hk (fun h => h)
      replace B_g1 := kp_blk B_g1 hk (fun h => h)
      replace B_g7 := kp_blk B_g7 hk (fun h => h)
      replace B_g9_10 := kp_blk B_g9_10 hk (fun h => h)
      replace O_L := Rv.rdv_keep O_L hk (fun _ _ h => h)
      replace K_0 := K_0.then_ hk (fun _ h => h.elim)
      clear hk
      refine ⟨⟨B_g1, B_g7, trivial⟩, ?_⟩
      have n_g9_1_g9_10 := Ne.symm n_g9_10_g9_1
      have n_g9_1_gd := Ne.symm n_gd_g9_1
      exact dr9_4 g9_1 g9_10 _ a (En.sub hE ⟨rfl, rfl, rfl, rfl, rfl, rfl, rfl, rfl, rfl, rfl, rfl, rfl, rfl, rfl, rfl, rfl, rfl, rfl, rfl, rfl, rfl, trivial⟩) B_gd B_g1 B_g7 B_g9_1 B_g9_10 n_g1_g9_1 n_g1_g9_10 n_g1_gd n_g7_g9_1 n_g7_g9_10 n_g7_gd n_g9_1_g9_10 n_g9_1_gd n_g9_10_gd z_0_g9_1 z_0_g9_10 Nb_L_g9_1 Nb_L_g9_10 O_L K_0
     refine all_cons (d_lit (listed' := #[true, false, true, true, true, true, true, false, false, true, true, false, true, true, true, false, true, true, false, false, false, false, false]) rfl ?_) ?_
     ·
      refine (s_still p18_9_5 hE wn_none rfl (st_load1 tA22 rfl ((blk_cell B_gd 1).trans rfl)) ?_); clear hE a; intro a hE
      refine ⟨⟨B_g1, B_g7, trivial⟩, ?_⟩
      refine Rv.dq (listed' := #[true, false, true, true, true, true, true, true, false, true, true, false, true, true, true, false, true, true, false, false, false, false, false]) (v := Value.slice A i c) p18_9_7 ns18_9 hE wn_none ⟨B_g1, B_g7, trivial⟩ (fun W hS => (st_sliceH (h := i) Tryd.underlying22 tS61 rfl rfl (by omega))) ?_ (fun c a w h => hQ c a _ _ w h); clear hE a; intro a hE
      exact dr9_8 g9_10 _ a (En.sub hE ⟨rfl, rfl, rfl, rfl, rfl, rfl, rfl, rfl, rfl, rfl, rfl, rfl, rfl, rfl, rfl, rfl, rfl, rfl, rfl, rfl, rfl, rfl, trivial⟩) B_gd B_g1 B_g7 B_g9_10 n_g1_g9_10 n_g1_gd n_g7_g9_10 n_g7_gd n_g9_10_gd z_0_g9_10 Nb_L_g9_10 O_L K_0
     refine all_cons (d_lit (listed' := #[true, false, true, true, true, false, true, false, false, true, true, false, true, true, true, true, true, true, false, false, false, false, false]) rfl ?_) ?_
     ·
      refine (s_still p18_9_15 hE wn_none rfl (st_load1 tA22 rfl ((blk_cell B_gd 1).trans rfl)) ?_); clear hE a; intro a hE
      refine ⟨⟨B_g1, B_g7, trivial⟩, ?_⟩
      refine Rv.dq (listed' := #[true, false, true, true, true, false, true, false, false, true, true, false, true, true, true, true, true, true, true, false, false, false, false]) (v := Value.slice AD (L.length - (i + 1)) (c - (i + 1))) p18_9_18 ns18_9 hE wn_none ⟨B_g1, B_g7, trivial⟩ (fun W hS => (st_sliceL (lo := (i + 1)) (A' := AD) Tryd.underlying22 tS61 rfl rfl (by omega) rfl rfl hAD)) ?_ (fun c a w h => hQ c a _ _ w h); clear hE a; intro a hE
      exact dr9_6 g9_10 _ a (En.sub hE ⟨rfl, rfl, rfl, rfl, rfl, rfl, rfl, rfl, rfl, rfl, rfl, rfl, rfl, rfl, rfl, rfl, rfl, rfl, rfl, rfl, rfl, rfl, trivial⟩) B_gd B_g1 B_g7 B_g9_10 n_g1_g9_10 n_g1_gd n_g7_g9_10 n_g7_gd n_g9_10_gd z_0_g9_10 Nb_L_g9_10 O_L K_0
     exact all_nil
    have dr9_1 : ∀ (g9_1 : Nat) (W : World) (a : Act), En 118 a [(0, Value.pointer (some ⟨gd, 0, none⟩)), (1, Value.agg #[Value.int .i64 r.1, Value.int .i64 r.2.1, Value.int .i64 r.2.2.1, Value.int .i64 r.2.2.2]), (3, Value.pointer (some ⟨g1, 0, none⟩)), (5, Value.int .i64 (i : Int)), (6, Value.pointer (some ⟨g7, 0, none⟩)), (7, Value.int .i64 (cmpF r.2.2.1 o.2.2.1)), (11, Value.bool false), (17, Value.bool true), (43, Value.pointer (some ⟨gd, 0, none⟩)), (44, Value.slice (some ⟨g9_1, 0, none⟩) 0 0), (45, Value.pointer (some ⟨gd, 0, none⟩)), (46, Value.pointer (some ⟨gd, 0, none⟩)), (47, Value.pointer (some ⟨gd, 1, none⟩)), (49, Value.int .i64 (i : Int)), (52, Value.agg #[Value.int .i64 r.1, Value.int .i64 r.2.1, Value.int .i64 r.2.2.1, Value.int .i64 r.2.2.2]), (55, Value.pointer (some ⟨gd, 0, none⟩)), (56, Value.pointer (some ⟨gd, 0, none⟩)), (57, Value.pointer (some ⟨gd, 1, none⟩)), (59, Value.int .i64 (i : Int)), (60, Value.int .i64 ((i : Int) + 1))] → W.heap[gd]? = some (.cells #[Value.int .i64 32, Value.slice A L.length c] 56 (0, 0)) → W.heap[g1]? = some (.cells #[Value.int .i64 r.1, Value.int .i64 r.2.1, Value.int .i64 r.2.2.1, Value.int .i64 r.2.2.2] 61 (0, 0)) → W.heap[g7]? = some (.cells #[Value.int .i64 o.1, Value.int .i64 o.2.1, Value.int .i64 o.2.2.1, Value.int .i64 o.2.2.2] 61 (0, 0)) → W.heap[g9_1]? = some (.cells #[] 61 (0, 0)) → g1 ≠ g9_1 → g1 ≠ gd → g7 ≠ g9_1 → g7 ≠ gd → g9_1 ≠ gd → w.heap.size ≤ g9_1 → ¬ OB A g9_1 → Rv.RdV W A L.length 4 (flR L) → Kp w W (fun k => k = gd) → wpAnyH Tryd.prog .any (regOf Tryd.f18 9) QQ (fun W => W.heap[g1]? = some (.cells #[Value.int .i64 r.1, Value.int .i64 r.2.1, Value.int .i64 r.2.2.1, Value.int .i64 r.2.2.2] 61 (0, 0)) ∧ W.heap[g7]? = some (.cells #[Value.int .i64 o.1, Value.int .i64 o.2.1, Value.int .i64 o.2.2.1, Value.int .i64 o.2.2.2] 61 (0, 0)) ∧ True) 11 #[true, true, true, true, true, false, true, false, false, true, false, false, true, true, true, false, true, true, false, false, false, false, false] a W := by
     intro g9_1 w118 a hE B_gd B_g1 B_g7 B_g9_1 n_g1_g9_1 n_g1_gd n_g7_g9_1 n_g7_gd n_g9_1_gd z_0_g9_1 Nb_L_g9_1 O_L K_0
     refine d_all (rs := [5, 10, 15]) (by kernel_rfl) rfl ?_
     refine all_cons (d_lit (listed' := #[true, true, true, true, true, true, true, false, false, true, false, false, true, true, true, false, true, true, false, false, false, false, false]) rfl ?_) ?_
     ·
      refine (s_still p18_9_5 hE wn_none rfl (st_load1 tA22 rfl ((blk_cell B_gd 1).trans rfl)) ?_); clear hE a; intro a hE
      refine ⟨⟨B_g1, B_g7, trivial⟩, ?_⟩
      refine Rv.dq (listed' := #[true, true, true, true, true, true, true, true, false, true, false, false, true, true, true, false, true, true, false, false, false, false, false]) (v := Value.slice A i c) p18_9_7 ns18_9 hE wn_none ⟨B_g1, B_g7, trivial⟩ (fun W hS => (st_sliceH (h := i) Tryd.underlying22 tS61 rfl rfl (by omega))) ?_ (fun c a w h => hQ c a _ _ w h); clear hE a; intro a hE
      exact dr9_7 g9_1 _ a (En.sub hE ⟨rfl, rfl, rfl, rfl, rfl, rfl, rfl, rfl, rfl, rfl, rfl, rfl, rfl, rfl, rfl, rfl, rfl, rfl, rfl, rfl, rfl, rfl, trivial⟩) B_gd B_g1 B_g7 B_g9_1 n_g1_g9_1 n_g1_gd n_g7_g9_1 n_g7_gd n_g9_1_gd z_0_g9_1 Nb_L_g9_1 O_L K_0
     refine all_cons (d_lit (listed' := #[true, true, true, true, true, false, true, false, false, true, true, false, true, true, true, false, true, true, false, false, false, false, false]) rfl ?_) ?_
     ·
      refine (s_row (xs := [(0, Operand.tmp 52)]) (vs := [(0, Value.agg #[Value.int .i64 r.1, Value.int .i64 r.2.1, Value.int .i64 r.2.2.1, Value.int .i64 r.2.2.2])]) (cs := #[Value.int .i64 r.1, Value.int .i64 r.2.1, Value.int .i64 r.2.2.1, Value.int .i64 r.2.2.2]) p18_9_10 hE wn_none rfl Tryd.underlying22 rfl (by kernel_rfl) ?_)
      clear hE a; intro g9_10 w119 z120 B_g9_10 hk a hE
      have n_gd_g9_10 : gd ≠ g9_10 := ne_new B_gd z120
      have n_g1_g9_10 : g1 ≠ g9_10 := ne_new B_g1 z120
      have n_g7_g9_10 : g7 ≠ g9_10 := ne_new B_g7 z120
      have n_g9_1_g9_10 : g9_1 ≠ g9_10 := ne_new B_g9_1 z120
      have z_0_g9_10 := Nat.le_trans K_0.kept.1 z120
      have Nb_L_g9_10 : ¬ OB A g9_10 := fun h => by have := (Rv.rdv_ob O_L h).2; omega
      replace B_gd := kp_blk B_gd hk (fun h => h)
      replace B_g1 := kp_blk B_g1 hk (fun h => h)
      replace B_g7 := kp_blk B_g7 hk (fun h => h)
      replace B_g9_1 := kp_blk B_g9_1 hk (fun h => h)
      replace O_L := Rv.rdv_keep O_L hk (fun _ _ h => h)
      replace K_0 := K_0.then_ hk (fun _ h => h.elim)
      clear hk
      refine ⟨⟨B_g1, B_g7, trivial⟩, ?_⟩
      have n_g9_10_gd := Ne.symm n_gd_g9_10
      exact dr9_4 g9_1 g9_10 _ a (En.sub hE ⟨rfl, rfl, rfl, rfl, rfl, rfl, rfl, rfl, rfl, rfl, rfl, rfl, rfl, rfl, rfl, rfl, rfl, rfl, rfl, rfl, rfl, trivial⟩) B_gd B_g1 B_g7 B_g9_1 B_g9_10 n_g1_g9_1 n_g1_g9_10 n_g1_gd n_g7_g9_1 n_g7_g9_10 n_g7_gd n_g9_1_g9_10 n_g9_1_gd n_g9_10_gd z_0_g9_1 z_0_g9_10 Nb_L_g9_1 Nb_L_g9_10 O_L K_0
     refine all_cons (d_lit (listed' := #[true, true, true, true, true, false, true, false, false, true, false, false, true, true, true, true, true, true, false, false, false, false, false]) rfl ?_) ?_
     ·
      refine (s_still p18_9_15 hE wn_none rfl (st_load1 tA22 rfl ((blk_cell B_gd 1).trans rfl)) ?_); clear hE a; intro a hE
      refine ⟨⟨B_g1, B_g7, trivial⟩, ?_⟩
      refine Rv.dq (listed' := #[true, true, true, true, true, false, true, false, false, true, false, false, true, true, true, true, true, true, true, false, false, false, false]) (v := Value.slice AD (L.length - (i + 1)) (c - (i + 1))) p18_9_18 ns18_9 hE wn_none ⟨B_g1, B_g7, trivial⟩ (fun W hS => (st_sliceL (lo := (i + 1)) (A' := AD) Tryd.underlying22 tS61 rfl rfl (by omega) rfl rfl hAD)) ?_ (fun c a w h => hQ c a _ _ w h); clear hE a; intro a hE
      exact dr9_9 g9_1 _ a (En.sub hE ⟨rfl, rfl, rfl, rfl, rfl, rfl, rfl, rfl, rfl, rfl, rfl, rfl, rfl, rfl, rfl, rfl, rfl, rfl, rfl, rfl, rfl, rfl, trivial⟩) B_gd B_g1 B_g7 B_g9_1 n_g1_g9_1 n_g1_gd n_g7_g9_1 n_g7_gd n_g9_1_gd z_0_g9_1 Nb_L_g9_1 O_L K_0
     exact all_nil
    have dr9_0 : ∀ (W : World) (a : Act), En 118 a [(0, Value.pointer (some ⟨gd, 0, none⟩)), (1, Value.agg #[Value.int .i64 r.1, Value.int .i64 r.2.1, Value.int .i64 r.2.2.1, Value.int .i64 r.2.2.2]), (3, Value.pointer (some ⟨g1, 0, none⟩)), (5, Value.int .i64 (i : Int)), (6, Value.pointer (some ⟨g7, 0, none⟩)), (7, Value.int .i64 (cmpF r.2.2.1 o.2.2.1)), (11, Value.bool false), (17, Value.bool true), (43, Value.pointer (some ⟨gd, 0, none⟩)), (45, Value.pointer (some ⟨gd, 0, none⟩)), (46, Value.pointer (some ⟨gd, 0, none⟩)), (47, Value.pointer (some ⟨gd, 1, none⟩)), (49, Value.int .i64 (i : Int)), (52, Value.agg #[Value.int .i64 r.1, Value.int .i64 r.2.1, Value.int .i64 r.2.2.1, Value.int .i64 r.2.2.2]), (55, Value.pointer (some ⟨gd, 0, none⟩)), (56, Value.pointer (some ⟨gd, 0, none⟩)), (57, Value.pointer (some ⟨gd, 1, none⟩)), (59, Value.int .i64 (i : Int)), (60, Value.int .i64 ((i : Int) + 1))] → W.heap[gd]? = some (.cells #[Value.int .i64 32, Value.slice A L.length c] 56 (0, 0)) → W.heap[g1]? = some (.cells #[Value.int .i64 r.1, Value.int .i64 r.2.1, Value.int .i64 r.2.2.1, Value.int .i64 r.2.2.2] 61 (0, 0)) → W.heap[g7]? = some (.cells #[Value.int .i64 o.1, Value.int .i64 o.2.1, Value.int .i64 o.2.2.1, Value.int .i64 o.2.2.2] 61 (0, 0)) → Rv.RdV W A L.length 4 (flR L) → Kp w W (fun k => k = gd) → wpAnyH Tryd.prog .any (regOf Tryd.f18 9) QQ (fun W => W.heap[g1]? = some (.cells #[Value.int .i64 r.1, Value.int .i64 r.2.1, Value.int .i64 r.2.2.1, Value.int .i64 r.2.2.2] 61 (0, 0)) ∧ W.heap[g7]? = some (.cells #[Value.int .i64 o.1, Value.int .i64 o.2.1, Value.int .i64 o.2.2.1, Value.int .i64 o.2.2.2] 61 (0, 0)) ∧ True) 12 #[true, false, true, true, true, false, true, false, false, true, false, false, true, true, true, false, true, true, false, false, false, false, false] a W := by
     intro w121 a hE B_gd B_g1 B_g7 O_L K_0
     refine d_all (rs := [1, 5, 10, 15]) (by kernel_rfl) rfl ?_
     refine all_cons (d_lit (listed' := #[true, true, true, true, true, false, true, false, false, true, false, false, true, true, true, false, true, true, false, false, false, false, false]) rfl ?_) ?_
     ·
      refine (s_row (xs := []) (vs := []) (cs := #[]) p18_9_1 hE wn_none rfl Tryd.underlying22 rfl (by kernel_rfl) ?_)
      clear hE a; intro g9_1 w122 z123 B_g9_1 hk a hE
      have n_gd_g9_1 : gd ≠ g9_1 := ne_new B_gd z123
      have n_g1_g9_1 : g1 ≠ g9_1 := ne_new B_g1 z123
      have n_g7_g9_1 : g7 ≠ g9_1 := ne_new B_g7 z123
      have z_0_g9_1 := Nat.le_trans K_0.kept.1 z123
      have Nb_L_g9_1 : ¬ OB A g9_1 := fun h => by have := (Rv.rdv_ob O_L h).2; omega
      replace B_gd := kp_blk B_gd hk (fun h => h)
      replace B_g1 := kp_blk B_g1 hk (fun h => h)
      replace B_g7 := kp_blk B_g7 hk (fun h => h)
      replace O_L := Rv.rdv_keep O_L hk (fun _ _ h => h)
      replace K_0 := K_0.then_ hk (fun _ h => h.elim)
      clear hk
      refine ⟨⟨B_g1, B_g7, trivial⟩, ?_⟩
      have n_g1_gd := Ne.symm n_gd_g1
      have n_g7_gd := Ne.symm n_gd_g7
      have n_g9_1_gd := Ne.symm n_gd_g9_1
      exact dr9_1 g9_1 _ a (En.sub hE ⟨rfl, rfl, rfl, rfl, rfl, rfl, rfl, rfl, rfl, rfl, rfl, rfl, rfl, rfl, rfl, rfl, rfl, rfl, rfl, rfl, trivial⟩) B_gd B_g1 B_g7 B_g9_1 n_g1_g9_1 n_g1_gd n_g7_g9_1 n_g7_gd n_g9_1_gd z_0_g9_1 Nb_L_g9_1 O_L K_0
     refine all_cons (d_lit (listed' := #[true, false, true, true, true, true, true, false, false, true, false, false, true, true, true, false, true, true, false, false, false, false, false]) rfl ?_) ?_
     ·
      refine (s_still p18_9_5 hE wn_none rfl (st_load1 tA22 rfl ((blk_cell B_gd 1).trans rfl)) ?_); clear hE a; intro a hE
      refine ⟨⟨B_g1, B_g7, trivial⟩, ?_⟩
      refine Rv.dq (listed' := #[true, false, true, true, true, true, true, true, false, true, false, false, true, true, true, false, true, true, false, false, false, false, false]) (v := Value.slice A i c) p18_9_7 ns18_9 hE wn_none ⟨B_g1, B_g7, trivial⟩ (fun W hS => (st_sliceH (h := i) Tryd.underlying22 tS61 rfl rfl (by omega))) ?_ (fun c a w h => hQ c a _ _ w h); clear hE a; intro a hE
      have n_g1_gd := Ne.symm n_gd_g1
      have n_g7_gd := Ne.symm n_gd_g7
      exact dr9_3 _ a (En.sub hE ⟨rfl, rfl, rfl, rfl, rfl, rfl, rfl, rfl, rfl, rfl, rfl, rfl, rfl, rfl, rfl, rfl, rfl, rfl, rfl, rfl, rfl, trivial⟩) B_gd B_g1 B_g7 n_g1_gd n_g7_gd O_L K_0
     refine all_cons (d_lit (listed' := #[true, false, true, true, true, false, true, false, false, true, true, false, true, true, true, false, true, true, false, false, false, false, false]) rfl ?_) ?_
     ·
      refine (s_row (xs := [(0, Operand.tmp 52)]) (vs := [(0, Value.agg #[Value.int .i64 r.1, Value.int .i64 r.2.1, Value.int .i64 r.2.2.1, Value.int .i64 r.2.2.2])]) (cs := #[Value.int .i64 r.1, Value.int .i64 r.2.1, Value.int .i64 r.2.2.1, Value.int .i64 r.2.2.2]) p18_9_10 hE wn_none rfl Tryd.underlying22 rfl (by kernel_rfl) ?_)
      clear hE a; intro g9_10 w124 z125 B_g9_10 hk a hE
      have n_gd_g9_10 : gd ≠ g9_10 := ne_new B_gd z125
      have n_g1_g9_10 : g1 ≠ g9_10 := ne_new B_g1 z125
      have n_g7_g9_10 : g7 ≠ g9_10 := ne_new B_g7 z125
      have z_0_g9_10 := Nat.le_trans K_0.kept.1 z125
      have Nb_L_g9_10 : ¬ OB A g9_10 := fun h => by have := (Rv.rdv_ob O_L h).2; omega
      replace B_gd := kp_blk B_gd hk (fun h => h)
      replace B_g1 := kp_blk B_g1 hk (fun h => h)
      replace B_g7 := kp_blk B_g7 hk (fun h => h)
      replace O_L := Rv.rdv_keep O_L hk (fun _ _ h => h)
      replace K_0 := K_0.then_ hk (fun _ h => h.elim)
      clear hk
      refine ⟨⟨B_g1, B_g7, trivial⟩, ?_⟩
      have n_g1_gd := Ne.symm n_gd_g1
      have n_g7_gd := Ne.symm n_gd_g7
      have n_g9_10_gd := Ne.symm n_gd_g9_10
      exact dr9_2 g9_10 _ a (En.sub hE ⟨rfl, rfl, rfl, rfl, rfl, rfl, rfl, rfl, rfl, rfl, rfl, rfl, rfl, rfl, rfl, rfl, rfl, rfl, rfl, rfl, trivial⟩) B_gd B_g1 B_g7 B_g9_10 n_g1_g9_10 n_g1_gd n_g7_g9_10 n_g7_gd n_g9_10_gd z_0_g9_10 Nb_L_g9_10 O_L K_0
     refine all_cons (d_lit (listed' := #[true, false, true, true, true, false, true, false, false, true, false, false, true, true, true, true, true, true, false, false, false, false, false]) rfl ?_) ?_
     ·
      refine (s_still p18_9_15 hE wn_none rfl (st_load1 tA22 rfl ((blk_cell B_gd 1).trans rfl)) ?_); clear hE a; intro a hE
      refine ⟨⟨B_g1, B_g7, trivial⟩, ?_⟩
      refine Rv.dq (listed' := #[true, false, true, true, true, false, true, false, false, true, false, false, true, true, true, true, true, true, true, false, false, false, false]) (v := Value.slice AD (L.length - (i + 1)) (c - (i + 1))) p18_9_18 ns18_9 hE wn_none ⟨B_g1, B_g7, trivial⟩ (fun W hS => (st_sliceL (lo := (i + 1)) (A' := AD) Tryd.underlying22 tS61 rfl rfl (by omega) rfl rfl hAD)) ?_ (fun c a w h => hQ c a _ _ w h); clear hE a; intro a hE
      have n_g1_gd := Ne.symm n_gd_g1
      have n_g7_gd := Ne.symm n_gd_g7
      exact dr9_5 _ a (En.sub hE ⟨rfl, rfl, rfl, rfl, rfl, rfl, rfl, rfl, rfl, rfl, rfl, rfl, rfl, rfl, rfl, rfl, rfl, rfl, rfl, rfl, rfl, trivial⟩) B_gd B_g1 B_g7 n_g1_gd n_g7_gd O_L K_0
     exact all_nil
    intro w13 hh hk
    replace B_gd := kp_blk B_gd hk (fun h => h)
    replace B_g1 := kp_blk B_g1 hk (fun h => h)
    replace B_g7 := kp_blk B_g7 hk (fun h => h)
    replace O_L := Rv.rdv_keep O_L hk (fun _ _ h => h)
    replace K_0 := K_0.then_ hk (fun _ h => h.elim)
    clear hh hk
    refine Rv.dq (listed' := #[true, false, false, false, false, false, false, false, false, false, false, false, false, false, false, false, false, false, false, false, false, false, false]) (v := Value.pointer (some ⟨gd, 0, none⟩)) p18_9_0 ns18_9 hE wn_none ⟨B_g1, B_g7, trivial⟩ (fun W hS => (st_move rfl)) ?_ (fun c a w h => hQ c a _ _ w h); clear hE a; intro a hE
    refine Rv.dq (listed' := #[true, false, true, false, false, false, false, false, false, false, false, false, false, false, false, false, false, false, false, false, false, false, false]) (v := Value.pointer (some ⟨gd, 0, none⟩)) p18_9_2 ns18_9 hE wn_none ⟨B_g1, B_g7, trivial⟩ (fun W hS => (st_move rfl)) ?_ (fun c a w h => hQ c a _ _ w h); clear hE a; intro a hE
    refine Rv.dq (listed' := #[true, false, true, true, false, false, false, false, false, false, false, false, false, false, false, false, false, false, false, false, false, false, false]) (v := Value.pointer (some ⟨gd, 0, none⟩)) p18_9_3 ns18_9 hE wn_none ⟨B_g1, B_g7, trivial⟩ (fun W hS => (st_nil rfl)) ?_ (fun c a w h => hQ c a _ _ w h); clear hE a; intro a hE
    refine Rv.dq (listed' := #[true, false, true, true, true, false, false, false, false, false, false, false, false, false, false, false, false, false, false, false, false, false, false]) (v := Value.pointer (some ⟨gd, 1, none⟩)) p18_9_4 ns18_9 hE wn_none ⟨B_g1, B_g7, trivial⟩ (fun W hS => (st_fieldAddr Tryd.underlying56 rfl tS22 rfl rfl)) ?_ (fun c a w h => hQ c a _ _ w h); clear hE a; intro a hE
    refine Rv.dq (listed' := #[true, false, true, true, true, false, true, false, false, false, false, false, false, false, false, false, false, false, false, false, false, false, false]) (v := Value.int .i64 (i : Int)) p18_9_6 ns18_9 hE wn_none ⟨B_g1, B_g7, trivial⟩ (fun W hS => (st_move rfl)) ?_ (fun c a w h => hQ c a _ _ w h); clear hE a; intro a hE
    refine Rv.dq (listed' := #[true, false, true, true, true, false, true, false, false, true, false, false, false, false, false, false, false, false, false, false, false, false, false]) (v := Value.agg #[Value.int .i64 r.1, Value.int .i64 r.2.1, Value.int .i64 r.2.2.1, Value.int .i64 r.2.2.2]) p18_9_9 ns18_9 hE wn_none ⟨B_g1, B_g7, trivial⟩ (fun W hS => (st_loadN (off := 0) (k := 4) (vs := [Value.int .i64 r.1, Value.int .i64 r.2.1, Value.int .i64 r.2.2.1, Value.int .i64 r.2.2.2]) tA61 tS61 rfl hS.1 rfl rfl)) ?_ (fun c a w h => hQ c a _ _ w h); clear hE a; intro a hE
    refine Rv.dq (listed' := #[true, false, true, true, true, false, true, false, false, true, false, false, true, false, false, false, false, false, false, false, false, false, false]) (v := Value.pointer (some ⟨gd, 0, none⟩)) p18_9_12 ns18_9 hE wn_none ⟨B_g1, B_g7, trivial⟩ (fun W hS => (st_move rfl)) ?_ (fun c a w h => hQ c a _ _ w h); clear hE a; intro a hE
    refine Rv.dq (listed' := #[true, false, true, true, true, false, true, false, false, true, false, false, true, true, false, false, false, false, false, false, false, false, false]) (v := Value.pointer (some ⟨gd, 0, none⟩)) p18_9_13 ns18_9 hE wn_none ⟨B_g1, B_g7, trivial⟩ (fun W hS => (st_nil rfl)) ?_ (fun c a w h => hQ c a _ _ w h); clear hE a; intro a hE
    refine Rv.dq (listed' := #[true, false, true, true, true, false, true, false, false, true, false, false, true, true, true, false, false, false, false, false, false, false, false]) (v := Value.pointer (some ⟨gd, 1, none⟩)) p18_9_14 ns18_9 hE wn_none ⟨B_g1, B_g7, trivial⟩ (fun W hS => (st_fieldAddr Tryd.underlying56 rfl tS22 rfl rfl)) ?_ (fun c a w h => hQ c a _ _ w h); clear hE a; intro a hE
    refine Rv.dq (listed' := #[true, false, true, true, true, false, true, false, false, true, false, false, true, true, true, false, true, false, false, false, false, false, false]) (v := Value.int .i64 (i : Int)) p18_9_16 ns18_9 hE wn_none ⟨B_g1, B_g7, trivial⟩ (fun W hS => (st_move rfl)) ?_ (fun c a w h => hQ c a _ _ w h); clear hE a; intro a hE
    refine Rv.dq (listed' := #[true, false, true, true, true, false, true, false, false, true, false, false, true, true, true, false, true, true, false, false, false, false, false]) (v := Value.int .i64 ((i : Int) + 1)) p18_9_17 ns18_9 hE wn_none ⟨B_g1, B_g7, trivial⟩ (fun W hS => (st_add (z := (i : Int) + 1) rfl rfl (wr_i64 _ (by omega) (by omega)))) ?_ (fun c a w h => hQ c a _ _ w h); clear hE a; intro a hE
    have n_g1_gd := Ne.symm n_gd_g1
    have n_g7_gd := Ne.symm n_gd_g7
    exact dr9_0 _ a (En.sub hE ⟨rfl, rfl, rfl, rfl, rfl, rfl, rfl, rfl, rfl, rfl, rfl, rfl, rfl, rfl, rfl, rfl, rfl, rfl, rfl, trivial⟩) B_gd B_g1 B_g7 O_L K_0
   ·
    refine wp_seq (c_reg R18_7_l ?_)
    refine q0 (pl P18_7 0) hE (st_move rfl) ?_; clear hE a; intro a hE
    rcases Decidable.em ((cmpF r.2.2.1 o.2.2.1) = 2) with hc126 | hc126
    ·
     refine qn hE (rg (v := Value.bool false) (pl P18_7 1) wn_none (st_neq rfl rfl (by rw [decide_eq_true hc126]; rfl)) (rc (pl P18_7 2) (st_move rfl) (rk (pl P18_7 3) (wn_some g18_7_2 rfl rfl) (rk (pl P18_7 4) (wn_some g18_7_2 rfl rfl) (rk (pl P18_7 5) (wn_some g18_7_2 rfl rfl) (rk (pl P18_7 6) (wn_undef g18_7_5 rfl) (rk (pl P18_7 7) (wn_undef g18_7_5 rfl) (rk (pl P18_7 8) (wn_undef g18_7_5 rfl) (rk (pl P18_7 9) (wn_undef g18_7_5 rfl) (rk (pl P18_7 10) (wn_undef g18_7_5 rfl) (rk (pl P18_7 11) (wn_some g18_7_2 rfl rfl) (rc (pl P18_7 12) (st_pick rfl rfl) rn)))))))))))) ?_; clear hE a; intro a hE
     refine p_nil (x_norm ?_)
     refine c_cond (t := false) hE rfl ?_
     refine wp_skip (x_norm ?_)
     exact jn9 _ _ ⟨En.sub hE ⟨rfl, rfl, rfl, rfl, rfl, rfl, rfl, rfl, trivial⟩, (by unfold freshB; rw [decide_eq_true hc126]; rfl), B_gd, B_g1, B_g7, O_L, Nb_L_gd, Nb_L_g1, Nb_L_g7, K_0⟩
    ·
     refine qn hE (rg (v := Value.bool true) (pl P18_7 1) wn_none (st_neq rfl rfl (by rw [decide_eq_false hc126]; rfl)) (rc (pl P18_7 2) (st_move rfl) (rg (pl P18_7 3) (wn_some g18_7_2 rfl rfl) (st_move rfl) rn))) ?_; clear hE a; intro a hE
     rcases Decidable.em ((cmpF r.2.2.1 o.2.2.1) = 0) with hc127 | hc127
     ·
      refine qn hE (rg (v := Value.bool false) (pl P18_7 4) (wn_some g18_7_2 rfl rfl) (st_neq rfl rfl (by rw [decide_eq_true hc127]; rfl)) (rg (pl P18_7 5) (wn_some g18_7_2 rfl rfl) (st_move rfl) (rg (pl P18_7 6) (wn_some g18_7_5 rfl rfl) (st_fieldAddr Tryd.underlying61 rfl tS3 rfl rfl) (rg (pl P18_7 7) (wn_some g18_7_5 rfl rfl) (st_load1 tA3 rfl ((blk_cell B_g1 1).trans rfl)) (rg (pl P18_7 8) (wn_some g18_7_5 rfl rfl) (st_fieldAddr Tryd.underlying61 rfl tS3 rfl rfl) (rg (pl P18_7 9) (wn_some g18_7_5 rfl rfl) (st_load1 tA3 rfl ((blk_cell B_g7 1).trans rfl)) rn)))))) ?_; clear hE a; intro a hE
      rcases Decidable.em (r.2.1 = o.2.1) with hc128 | hc128
      ·
       refine qn hE (rg (v := Value.bool false) (pl P18_7 10) (wn_some g18_7_5 rfl rfl) (st_neq rfl rfl (by rw [decide_eq_true hc128]; rfl)) (rg (pl P18_7 11) (wn_some g18_7_2 rfl rfl) (st_pick rfl rfl) (rc (pl P18_7 12) (st_pick rfl rfl) rn))) ?_; clear hE a; intro a hE
       refine p_nil (x_norm ?_)
       refine c_cond (t := false) hE rfl ?_
       refine wp_skip (x_norm ?_)
       exact jn9 _ _ ⟨En.sub hE ⟨rfl, rfl, rfl, rfl, rfl, rfl, rfl, rfl, trivial⟩, (by unfold freshB; rw [decide_eq_true (cmp_zero.1 hc127), decide_eq_true hc128, Bool.and_self, Bool.or_true]), B_gd, B_g1, B_g7, O_L, Nb_L_gd, Nb_L_g1, Nb_L_g7, K_0⟩
      ·
       refine qn hE (rg (v := Value.bool true) (pl P18_7 10) (wn_some g18_7_5 rfl rfl) (st_neq rfl rfl (by rw [decide_eq_false hc128]; rfl)) (rg (pl P18_7 11) (wn_some g18_7_2 rfl rfl) (st_pick rfl rfl) (rc (pl P18_7 12) (st_pick rfl rfl) rn))) ?_; clear hE a; intro a hE
       refine p_nil (x_norm ?_)
       refine c_cond (t := true) hE rfl ?_
       refine c_reg R18_8_l ?_
       refine q0 p18_8_0 hE (st_assign rfl) ?_; clear hE a; intro a hE
       refine p_nil (x_norm (wp_ret (x_ret (x_ret ?_))))
       refine ret_one (v := Value.int .i64 9) rfl hE (.tmp rfl .nil) ?_
       have hf9 : freshB r o = false := by unfold freshB; rw [decide_eq_false hc126, decide_eq_false hc128, Bool.and_false, Bool.or_false]
       have e9 : learnR L r = L := by unfold learnR; rw [if_pos hb5, ho]; show (if freshB r o = true then _ else _) = _; rw [hf9]; rfl
       rw [e9]
       exact ⟨A, c, _, rfl, B_gd, O_L, hcA, fun k h => .inl h, K_0⟩
     ·
      refine qn hE (rg (v := Value.bool true) (pl P18_7 4) (wn_some g18_7_2 rfl rfl) (st_neq rfl rfl (by rw [decide_eq_false hc127]; rfl)) (rg (pl P18_7 5) (wn_some g18_7_2 rfl rfl) (st_move rfl) (rk (pl P18_7 6) (wn_some g18_7_5 rfl rfl) (rk (pl P18_7 7) (wn_some g18_7_5 rfl rfl) (rk (pl P18_7 8) (wn_some g18_7_5 rfl rfl) (rk (pl P18_7 9) (wn_some g18_7_5 rfl rfl) (rk (pl P18_7 10) (wn_some g18_7_5 rfl rfl) (rg (pl P18_7 11) (wn_some g18_7_2 rfl rfl) (st_pick rfl rfl) (rc (pl P18_7 12) (st_pick rfl rfl) rn))))))))) ?_; clear hE a; intro a hE
      refine p_nil (x_norm ?_)
      refine c_cond (t := true) hE rfl ?_
      refine c_reg R18_8_l ?_
      refine q0 p18_8_0 hE (st_assign rfl) ?_; clear hE a; intro a hE
      refine p_nil (x_norm (wp_ret (x_ret (x_ret ?_))))
      refine ret_one (v := Value.int .i64 9) rfl hE (.tmp rfl .nil) ?_
      have hf9 : freshB r o = false := by unfold freshB; rw [decide_eq_false hc126, decide_eq_false (fun h => hc127 (cmp_zero.2 h)), Bool.false_and, Bool.or_false]
      have e9 : learnR L r = L := by unfold learnR; rw [if_pos hb5, ho]; show (if freshB r o = true then _ else _) = _; rw [hf9]; rfl
      rw [e9]
      exact ⟨A, c, _, rfl, B_gd, O_L, hcA, fun k h => .inl h, K_0⟩
  ·
   have hr9 := okR_b hb5
   have ho := Option.not_isSome_iff_eq_none.1 hHAS
   have hrn := getR_none ho
   refine c_reg R18_3_l ?_
   refine qn hE (rc (pl P18_3 0) (st_move rfl) (rc (pl P18_3 1) (st_fieldAddr Tryd.underlying61 rfl tS3 rfl rfl) (rc (pl P18_3 2) (st_load1 tA3 rfl ((blk_cell B_g1 0).trans rfl)) rn))) ?_; clear hE a; intro a hE
   refine p_cons (s_call (xs := [Operand.tmp 12, Operand.tmp 14]) (args := [Value.pointer (some ⟨gd, 0, none⟩), Value.int .i64 r.1]) (pl P18_3 3) hE wn_none rfl rfl Tryd.func31 cl31 (rfind gd A c L r.1 (-1) hrn.1 _ B_gd O_L hcA hll Nb_L_gd) ?_)
   rintro e w129 ⟨rfl, hk⟩
   replace B_gd := kp_blk B_gd hk (fun h => h)
   replace B_g1 := kp_blk B_g1 hk (fun h => h)
   replace O_L := Rv.rdv_keep O_L hk (fun _ _ h => h)
   replace K_0 := K_0.then_ hk (fun _ h => h.elim)
   refine ⟨_, rfl, ?_⟩; clear hE a; intro a hE
   refine q0 (pl P18_3 4) hE (st_assign rfl) ?_; clear hE a; intro a hE
   refine p_nil (x_norm (wp_seq (c_reg R18_4_l ?_)))
   refine qn hE (rc (pl P18_4 0) (st_move rfl) (rc (pl P18_4 1) (st_geq (b := false) rfl rfl (by decide)) rn)) ?_; clear hE a; intro a hE
   refine p_nil (x_norm ?_)
   refine c_cond (t := false) hE rfl ?_
   refine wp_skip (x_norm (wp_seq ?_))
   refine c_drawS (S := fun W => W.heap[gd]? = some (.cells #[Value.int .i64 32, Value.slice A L.length c] 56 (0, 0)) ∧ True) rfl rfl (listed := #[false, false, false, false, false, false, false, false, false, false]) rfl ?_
   intro w130 hh hk
   replace B_gd := kp_blk B_gd hk (fun h => h)
   replace B_g1 := kp_blk B_g1 hk (fun h => h)
   replace O_L := Rv.rdv_keep O_L hk (fun _ _ h => h)
   replace K_0 := K_0.then_ hk (fun _ h => h.elim)
   clear hh hk
   refine Rv.dq (v := Value.pointer (some ⟨gd, 0, none⟩)) p18_11_0 ns18_11 hE wn_none ⟨B_gd, trivial⟩ (fun W hS => (st_move rfl)) ?_; clear hE a; intro a hE
   refine Rv.dq (v := Value.pointer (some ⟨gd, 0, none⟩)) p18_11_1 ns18_11 hE wn_none ⟨B_gd, trivial⟩ (fun W hS => (st_nil rfl)) ?_; clear hE a; intro a hE
   refine Rv.dq (v := Value.pointer (some ⟨gd, 1, none⟩)) p18_11_2 ns18_11 hE wn_none ⟨B_gd, trivial⟩ (fun W hS => (st_fieldAddr Tryd.underlying56 rfl tS22 rfl rfl)) ?_; clear hE a; intro a hE
   refine Rv.dq (v := Value.slice A L.length c) p18_11_3 ns18_11 hE wn_none ⟨B_gd, trivial⟩ (fun W hS => (st_load1 tA22 rfl ((blk_cell hS.1 1).trans rfl))) ?_; clear hE a; intro a hE
   refine Rv.dq (v := Value.int .i64 (L.length : Int)) p18_11_4 ns18_11 hE wn_none ⟨B_gd, trivial⟩ (fun W hS => (st_len Tryd.underlying22 rfl)) ?_; clear hE a; intro a hE
   refine Rv.dq (v := Value.pointer (some ⟨gd, 0, none⟩)) p18_11_5 ns18_11 hE wn_none ⟨B_gd, trivial⟩ (fun W hS => (st_move rfl)) ?_; clear hE a; intro a hE
   refine Rv.dq (v := Value.pointer (some ⟨gd, 0, none⟩)) p18_11_6 ns18_11 hE wn_none ⟨B_gd, trivial⟩ (fun W hS => (st_nil rfl)) ?_; clear hE a; intro a hE
   refine Rv.dq (v := Value.pointer (some ⟨gd, 0, none⟩)) p18_11_7 ns18_11 hE wn_none ⟨B_gd, trivial⟩ (fun W hS => (st_fieldAddr Tryd.underlying56 rfl tS3 rfl rfl)) ?_; clear hE a; intro a hE
   refine Rv.dq (v := Value.int .i64 32) p18_11_8 ns18_11 hE wn_none ⟨B_gd, trivial⟩ (fun W hS => (st_load1 tA3 rfl ((blk_cell hS.1 0).trans rfl))) ?_; clear hE a; intro a hE
   refine Rv.dq (v := Value.bool false) p18_11_9 ns18_11 hE wn_none ⟨B_gd, trivial⟩ (fun W hS => (st_geq (b := false) rfl rfl (decide_eq_false (by omega)))) ?_; clear hE a; intro a hE
   refine d_end (by kernel_rfl) ?_
   refine x_norm ?_
   refine c_cond (t := false) hE rfl ?_
   refine wp_skip (x_norm (c_reg R18_13_l ?_))
   refine q0 p18_13_0 hE (st_assign rfl) ?_; clear hE a; intro a hE
   refine p_nil (x_norm (wp_seq (wp_block ?_)))
   refine c_loop (α := Nat) (fun i a W => En 118 a [(0, Value.pointer (some ⟨gd, 0, none⟩)), (1, Value.agg #[Value.int .i64 r.1, Value.int .i64 r.2.1, Value.int .i64 r.2.2.1, Value.int .i64 r.2.2.2]), (3, Value.pointer (some ⟨g1, 0, none⟩)), (4, Value.int .i64 0), (11, Value.bool false), (5, Value.int .i64 (-1)), (17, Value.bool false), (74, Value.bool false), (8, Value.int .i64 (i : Int))] ∧ i ≤ L.length ∧ (∀ j p, j < i → L[j]? = some p → p.1 < r.1) ∧ W.heap[gd]? = some (.cells #[Value.int .i64 32, Value.slice A L.length c] 56 (0, 0)) ∧ W.heap[g1]? = some (.cells #[Value.int .i64 r.1, Value.int .i64 r.2.1, Value.int .i64 r.2.2.1, Value.int .i64 r.2.2.2] 61 (0, 0)) ∧ Rv.RdV W A L.length 4 (flR L) ∧ ¬ OB A gd ∧ ¬ OB A g1 ∧ Kp w W (fun k => k = gd)) (fun i => L.length - i) (0) ?_ ?_
   ·
    exact ⟨En.sub hE ⟨rfl, rfl, rfl, rfl, rfl, rfl, rfl, rfl, rfl, trivial⟩, Nat.zero_le _, (fun j p h => absurd h (Nat.not_lt_zero _)), B_gd, B_g1, O_L, Nb_L_gd, Nb_L_g1, K_0⟩
   ·
    clear hE a
    rintro i a w131 ⟨hE, hi9, hlow, B_gd, B_g1, O_L, Nb_L_gd, Nb_L_g1, K_0⟩
    refine wp_seq ?_
    rcases Decidable.em ((i : Int) < (L.length : Int)) with hK1 | hK1
    ·
     obtain ⟨p, hx⟩ : ∃ o, L[i]? = some o := ⟨_, List.getElem?_eq_getElem (by omega)⟩
     have hAep := (Rv.rdv_elem (fl := fl4) O_L (by decide) (fun _ => rfl) hx).1
     rcases Decidable.em (p.1 < r.1) with hK2 | hK2
     ·
      refine c_drawS (S := fun W => W.heap[gd]? = some (.cells #[Value.int .i64 32, Value.slice A L.length c] 56 (0, 0)) ∧ W.heap[g1]? = some (.cells #[Value.int .i64 r.1, Value.int .i64 r.2.1, Value.int .i64 r.2.2.1, Value.int .i64 r.2.2.2] 61 (0, 0)) ∧ (∀ j u, ([Value.int .i64 p.1, Value.int .i64 p.2.1, Value.int .i64 p.2.2.1, Value.int .i64 p.2.2.2])[j]? = some u → W.cell? (ea A (i * 4 + j)) = some u) ∧ True) rfl rfl (listed := #[false, false, false, false, false, false, false, false, false, false, false, false, false, false, false, false, false, false, false, false]) rfl ?_
      intro w132 hh hk
      replace B_gd := kp_blk B_gd hk (fun h => h)
      replace B_g1 := kp_blk B_g1 hk (fun h => h)
      replace O_L := Rv.rdv_keep O_L hk (fun _ _ h => h)
      replace K_0 := K_0.then_ hk (fun _ h => h.elim)
      clear hh hk
      have hS9 : w132.heap[gd]? = some (.cells #[Value.int .i64 32, Value.slice A L.length c] 56 (0, 0)) ∧ w132.heap[g1]? = some (.cells #[Value.int .i64 r.1, Value.int .i64 r.2.1, Value.int .i64 r.2.2.1, Value.int .i64 r.2.2.2] 61 (0, 0)) ∧ (∀ j u, ([Value.int .i64 p.1, Value.int .i64 p.2.1, Value.int .i64 p.2.2.1, Value.int .i64 p.2.2.2])[j]? = some u → w132.cell? (ea A (i * 4 + j)) = some u) ∧ True := ⟨B_gd, B_g1, (Rv.rdv_elem (fl := fl4) O_L (by decide) (fun _ => rfl) hx).2, trivial⟩
      refine Rv.dq (v := Value.int .i64 (i : Int)) p18_14_0 ns18_14 hE wn_none hS9 (fun W hS => (st_move rfl)) ?_; clear hE a; intro a hE
      refine Rv.dq (v := Value.pointer (some ⟨gd, 0, none⟩)) p18_14_1 ns18_14 hE wn_none hS9 (fun W hS => (st_move rfl)) ?_; clear hE a; intro a hE
      refine Rv.dq (v := Value.pointer (some ⟨gd, 0, none⟩)) p18_14_2 ns18_14 hE wn_none hS9 (fun W hS => (st_nil rfl)) ?_; clear hE a; intro a hE
      refine Rv.dq (v := Value.pointer (some ⟨gd, 1, none⟩)) p18_14_3 ns18_14 hE wn_none hS9 (fun W hS => (st_fieldAddr Tryd.underlying56 rfl tS22 rfl rfl)) ?_; clear hE a; intro a hE
      refine Rv.dq (v := Value.slice A L.length c) p18_14_4 ns18_14 hE wn_none hS9 (fun W hS => (st_load1 tA22 rfl ((blk_cell hS.1 1).trans rfl))) ?_; clear hE a; intro a hE
      refine Rv.dq (v := Value.int .i64 (L.length : Int)) p18_14_5 ns18_14 hE wn_none hS9 (fun W hS => (st_len Tryd.underlying22 rfl)) ?_; clear hE a; intro a hE
      refine Rv.dq (v := Value.bool true) p18_14_6 ns18_14 hE wn_none hS9 (fun W hS => (st_lss (b := true) rfl rfl (decide_eq_true hK1))) ?_; clear hE a; intro a hE
      refine Rv.dq (v := Value.bool true) p18_14_7 ns18_14 hE wn_none hS9 (fun W hS => (st_move rfl)) ?_; clear hE a; intro a hE
      refine Rv.dq (v := Value.pointer (some ⟨gd, 0, none⟩)) p18_14_8 ns18_14 hE (wn_some g18_14_7 rfl rfl) hS9 (fun W hS => (st_move rfl)) ?_; clear hE a; intro a hE
      refine Rv.dq (v := Value.pointer (some ⟨gd, 0, none⟩)) p18_14_9 ns18_14 hE (wn_some g18_14_7 rfl rfl) hS9 (fun W hS => (st_nil rfl)) ?_; clear hE a; intro a hE
      refine Rv.dq (v := Value.pointer (some ⟨gd, 1, none⟩)) p18_14_10 ns18_14 hE (wn_some g18_14_7 rfl rfl) hS9 (fun W hS => (st_fieldAddr Tryd.underlying56 rfl tS22 rfl rfl)) ?_; clear hE a; intro a hE
      refine Rv.dq (v := Value.slice A L.length c) p18_14_11 ns18_14 hE (wn_some g18_14_7 rfl rfl) hS9 (fun W hS => (st_load1 tA22 rfl ((blk_cell hS.1 1).trans rfl))) ?_; clear hE a; intro a hE
      refine Rv.dq (v := Value.int .i64 (i : Int)) p18_14_12 ns18_14 hE (wn_some g18_14_7 rfl rfl) hS9 (fun W hS => (st_move rfl)) ?_; clear hE a; intro a hE
      refine Rv.dq (v := Value.pointer (some (ea A (i * 4)))) p18_14_13 ns18_14 hE (wn_some g18_14_7 rfl rfl) hS9 (fun W hS => (st_indexAddrR (i := i) (s := 4) Tryd.underlying22 tS61 hAep rfl rfl (by omega))) ?_; clear hE a; intro a hE
      refine Rv.dq (v := Value.pointer (some (ea A (i * 4)))) p18_14_14 ns18_14 hE (wn_some g18_14_7 rfl rfl) hS9 (fun W hS => (st_fieldAddrR (off := i * 4) (f0 := 0) (o' := i * 4) Tryd.underlying61 rfl tS3 rfl (by omega) rfl)) ?_; clear hE a; intro a hE
      refine Rv.dq (v := Value.int .i64 p.1) p18_14_15 ns18_14 hE (wn_some g18_14_7 rfl rfl) hS9 (fun W hS => (st_loadR1 (off := i * 4) (j := 0) tA3 (hS.2.2.1) rfl (by omega) rfl)) ?_; clear hE a; intro a hE
      refine Rv.dq (v := Value.pointer (some ⟨g1, 0, none⟩)) p18_14_16 ns18_14 hE (wn_some g18_14_7 rfl rfl) hS9 (fun W hS => (st_fieldAddr Tryd.underlying61 rfl tS3 rfl rfl)) ?_; clear hE a; intro a hE
      refine Rv.dq (v := Value.int .i64 r.1) p18_14_17 ns18_14 hE (wn_some g18_14_7 rfl rfl) hS9 (fun W hS => (st_load1 tA3 rfl ((blk_cell hS.2.1 0).trans rfl))) ?_; clear hE a; intro a hE
      refine Rv.dq (v := Value.bool true) p18_14_18 ns18_14 hE (wn_some g18_14_7 rfl rfl) hS9 (fun W hS => (st_lss (b := true) rfl rfl (decide_eq_true hK2))) ?_; clear hE a; intro a hE
      refine Rv.dq (v := Value.bool true) p18_14_19 ns18_14 hE wn_none hS9 (fun W hS => (st_pick rfl rfl)) ?_; clear hE a; intro a hE
      refine d_end (by kernel_rfl) ?_
      refine x_norm ?_
      refine c_cond (t := true) hE rfl ?_
      refine wp_skip (x_norm (wp_block (c_regL R18_15_l ?_)))
      refine qn hE (rc (pl P18_15 0) (st_move rfl) (rc (pl P18_15 1) (st_add (z := (i : Int) + 1) rfl rfl (wr_i64 _ (by omega) (by omega))) (rc (pl P18_15 2) (st_assign rfl) rn))) ?_; clear hE a; intro a hE
      refine p_nil (x_normB (x_norm ?_))
      have hlow9 : ∀ j p, j < i + 1 → L[j]? = some p → p.1 < r.1 := fun j q hj hq => by
       rcases Nat.lt_or_ge j i with z | z
       · exact hlow j q z hq
       ·
        obtain rfl : j = i := by omega
        rw [hx] at hq
        injection hq with hq
        rw [← hq]; exact hK2
      exact ⟨i + 1, by omega, En.sub hE ⟨rfl, rfl, rfl, rfl, rfl, rfl, rfl, rfl, rfl, trivial⟩, by omega, hlow9, B_gd, B_g1, O_L, Nb_L_gd, Nb_L_g1, K_0⟩
     ·
      refine c_drawS (S := fun W => W.heap[gd]? = some (.cells #[Value.int .i64 32, Value.slice A L.length c] 56 (0, 0)) ∧ W.heap[g1]? = some (.cells #[Value.int .i64 r.1, Value.int .i64 r.2.1, Value.int .i64 r.2.2.1, Value.int .i64 r.2.2.2] 61 (0, 0)) ∧ (∀ j u, ([Value.int .i64 p.1, Value.int .i64 p.2.1, Value.int .i64 p.2.2.1, Value.int .i64 p.2.2.2])[j]? = some u → W.cell? (ea A (i * 4 + j)) = some u) ∧ True) rfl rfl (listed := #[false, false, false, false, false, false, false, false, false, false, false, false, false, false, false, false, false, false, false, false]) rfl ?_
      intro w133 hh hk
      replace B_gd := kp_blk B_gd hk (fun h => h)
      replace B_g1 := kp_blk B_g1 hk (fun h => h)
      replace O_L := Rv.rdv_keep O_L hk (fun _ _ h => h)
      replace K_0 := K_0.then_ hk (fun _ h => h.elim)
      clear hh hk
      have hS9 : w133.heap[gd]? = some (.cells #[Value.int .i64 32, Value.slice A L.length c] 56 (0, 0)) ∧ w133.heap[g1]? = some (.cells #[Value.int .i64 r.1, Value.int .i64 r.2.1, Value.int .i64 r.2.2.1, Value.int .i64 r.2.2.2] 61 (0, 0)) ∧ (∀ j u, ([Value.int .i64 p.1, Value.int .i64 p.2.1, Value.int .i64 p.2.2.1, Value.int .i64 p.2.2.2])[j]? = some u → w133.cell? (ea A (i * 4 + j)) = some u) ∧ True := ⟨B_gd, B_g1, (Rv.rdv_elem (fl := fl4) O_L (by decide) (fun _ => rfl) hx).2, trivial⟩
      refine Rv.dq (v := Value.int .i64 (i : Int)) p18_14_0 ns18_14 hE wn_none hS9 (fun W hS => (st_move rfl)) ?_; clear hE a; intro a hE
      refine Rv.dq (v := Value.pointer (some ⟨gd, 0, none⟩)) p18_14_1 ns18_14 hE wn_none hS9 (fun W hS => (st_move rfl)) ?_; clear hE a; intro a hE
      refine Rv.dq (v := Value.pointer (some ⟨gd, 0, none⟩)) p18_14_2 ns18_14 hE wn_none hS9 (fun W hS => (st_nil rfl)) ?_; clear hE a; intro a hE
      refine Rv.dq (v := Value.pointer (some ⟨gd, 1, none⟩)) p18_14_3 ns18_14 hE wn_none hS9 (fun W hS => (st_fieldAddr Tryd.underlying56 rfl tS22 rfl rfl)) ?_; clear hE a; intro a hE
      refine Rv.dq (v := Value.slice A L.length c) p18_14_4 ns18_14 hE wn_none hS9 (fun W hS => (st_load1 tA22 rfl ((blk_cell hS.1 1).trans rfl))) ?_; clear hE a; intro a hE
      refine Rv.dq (v := Value.int .i64 (L.length : Int)) p18_14_5 ns18_14 hE wn_none hS9 (fun W hS => (st_len Tryd.underlying22 rfl)) ?_; clear hE a; intro a hE
      refine Rv.dq (v := Value.bool true) p18_14_6 ns18_14 hE wn_none hS9 (fun W hS => (st_lss (b := true) rfl rfl (decide_eq_true hK1))) ?_; clear hE a; intro a hE
      refine Rv.dq (v := Value.bool true) p18_14_7 ns18_14 hE wn_none hS9 (fun W hS => (st_move rfl)) ?_; clear hE a; intro a hE
      refine Rv.dq (v := Value.pointer (some ⟨gd, 0, none⟩)) p18_14_8 ns18_14 hE (wn_some g18_14_7 rfl rfl) hS9 (fun W hS => (st_move rfl)) ?_; clear hE a; intro a hE
      refine Rv.dq (v := Value.pointer (some ⟨gd, 0, none⟩)) p18_14_9 ns18_14 hE (wn_some g18_14_7 rfl rfl) hS9 (fun W hS => (st_nil rfl)) ?_; clear hE a; intro a hE
      refine Rv.dq (v := Value.pointer (some ⟨gd, 1, none⟩)) p18_14_10 ns18_14 hE (wn_some g18_14_7 rfl rfl) hS9 (fun W hS => (st_fieldAddr Tryd.underlying56 rfl tS22 rfl rfl)) ?_; clear hE a; intro a hE
      refine Rv.dq (v := Value.slice A L.length c) p18_14_11 ns18_14 hE (wn_some g18_14_7 rfl rfl) hS9 (fun W hS => (st_load1 tA22 rfl ((blk_cell hS.1 1).trans rfl))) ?_; clear hE a; intro a hE
      refine Rv.dq (v := Value.int .i64 (i : Int)) p18_14_12 ns18_14 hE (wn_some g18_14_7 rfl rfl) hS9 (fun W hS => (st_move rfl)) ?_; clear hE a; intro a hE
      refine Rv.dq (v := Value.pointer (some (ea A (i * 4)))) p18_14_13 ns18_14 hE (wn_some g18_14_7 rfl rfl) hS9 (fun W hS => (st_indexAddrR (i := i) (s := 4) Tryd.underlying22 tS61 hAep rfl rfl (by omega))) ?_; clear hE a; intro a hE
      refine Rv.dq (v := Value.pointer (some (ea A (i * 4)))) p18_14_14 ns18_14 hE (wn_some g18_14_7 rfl rfl) hS9 (fun W hS => (st_fieldAddrR (off := i * 4) (f0 := 0) (o' := i * 4) Tryd.underlying61 rfl tS3 rfl (by omega) rfl)) ?_; clear hE a; intro a hE
      refine Rv.dq (v := Value.int .i64 p.1) p18_14_15 ns18_14 hE (wn_some g18_14_7 rfl rfl) hS9 (fun W hS => (st_loadR1 (off := i * 4) (j := 0) tA3 (hS.2.2.1) rfl (by omega) rfl)) ?_; clear hE a; intro a hE
      refine Rv.dq (v := Value.pointer (some ⟨g1, 0, none⟩)) p18_14_16 ns18_14 hE (wn_some g18_14_7 rfl rfl) hS9 (fun W hS => (st_fieldAddr Tryd.underlying61 rfl tS3 rfl rfl)) ?_; clear hE a; intro a hE
      refine Rv.dq (v := Value.int .i64 r.1) p18_14_17 ns18_14 hE (wn_some g18_14_7 rfl rfl) hS9 (fun W hS => (st_load1 tA3 rfl ((blk_cell hS.2.1 0).trans rfl))) ?_; clear hE a; intro a hE
      refine Rv.dq (v := Value.bool false) p18_14_18 ns18_14 hE (wn_some g18_14_7 rfl rfl) hS9 (fun W hS => (st_lss (b := false) rfl rfl (decide_eq_false hK2))) ?_; clear hE a; intro a hE
      refine Rv.dq (v := Value.bool false) p18_14_19 ns18_14 hE wn_none hS9 (fun W hS => (st_pick rfl rfl)) ?_; clear hE a; intro a hE
      refine d_end (by kernel_rfl) ?_
      refine x_norm ?_
      refine c_cond (t := false) hE rfl ?_
      refine wp_exit (x_exit (x_exit ?_))
      have hhigh : ∀ p, L[i]? = some p → ¬ p.1 < r.1 := fun q hq => by rw [hx] at hq; injection hq with hq; rw [← hq]; exact hK2
      have hj9 : True := trivial
      refine x_in (x_norm ?_)
      have hE2 : En 118 a [(0, Value.pointer (some ⟨gd, 0, none⟩)), (3, Value.pointer (some ⟨g1, 0, none⟩)), (8, Value.int .i64 (i : Int))] := En.sub hE ⟨rfl, rfl, rfl, trivial⟩
      have e9 : learnR L r = L.take i ++ r :: L.drop i := by unfold learnR; rw [if_pos hb5, ho]; exact ins_at hi9 hlow hhigh
      rw [e9]
      exact learn16 w w133 gd A c L r i g1 B_gd O_L hcA (by omega) Nb_L_gd Nb_L_g1 B_g1 n_gd_g1 K_0 (by omega) (fun A' c' W' h1 h2 h3 h4 h5 => ⟨A', c', _, rfl, h1, h2, h3, fun k h => .inr (h4 k h), h5⟩) _ hE2
    ·
     refine c_drawS (S := fun W => W.heap[gd]? = some (.cells #[Value.int .i64 32, Value.slice A L.length c] 56 (0, 0)) ∧ W.heap[g1]? = some (.cells #[Value.int .i64 r.1, Value.int .i64 r.2.1, Value.int .i64 r.2.2.1, Value.int .i64 r.2.2.2] 61 (0, 0)) ∧ True) rfl rfl (listed := #[false, false, false, false, false, false, false, false, false, false, false, false, false, false, false, false, false, false, false, false]) rfl ?_
     intro w134 hh hk
     replace B_gd := kp_blk B_gd hk (fun h => h)
     replace B_g1 := kp_blk B_g1 hk (fun h => h)
     replace O_L := Rv.rdv_keep O_L hk (fun _ _ h => h)
     replace K_0 := K_0.then_ hk (fun _ h => h.elim)
     clear hh hk
     refine Rv.dq (v := Value.int .i64 (i : Int)) p18_14_0 ns18_14 hE wn_none ⟨B_gd, B_g1, trivial⟩ (fun W hS => (st_move rfl)) ?_; clear hE a; intro a hE
     refine Rv.dq (v := Value.pointer (some ⟨gd, 0, none⟩)) p18_14_1 ns18_14 hE wn_none ⟨B_gd, B_g1, trivial⟩ (fun W hS => (st_move rfl)) ?_; clear hE a; intro a hE
     refine Rv.dq (v := Value.pointer (some ⟨gd, 0, none⟩)) p18_14_2 ns18_14 hE wn_none ⟨B_gd, B_g1, trivial⟩ (fun W hS => (st_nil rfl)) ?_; clear hE a; intro a hE
     refine Rv.dq (v := Value.pointer (some ⟨gd, 1, none⟩)) p18_14_3 ns18_14 hE wn_none ⟨B_gd, B_g1, trivial⟩ (fun W hS => (st_fieldAddr Tryd.underlying56 rfl tS22 rfl rfl)) ?_; clear hE a; intro a hE
     refine Rv.dq (v := Value.slice A L.length c) p18_14_4 ns18_14 hE wn_none ⟨B_gd, B_g1, trivial⟩ (fun W hS => (st_load1 tA22 rfl ((blk_cell hS.1 1).trans rfl))) ?_; clear hE a; intro a hE
     refine Rv.dq (v := Value.int .i64 (L.length : Int)) p18_14_5 ns18_14 hE wn_none ⟨B_gd, B_g1, trivial⟩ (fun W hS => (st_len Tryd.underlying22 rfl)) ?_; clear hE a; intro a hE
     refine Rv.dq (v := Value.bool false) p18_14_6 ns18_14 hE wn_none ⟨B_gd, B_g1, trivial⟩ (fun W hS => (st_lss (b := false) rfl rfl (decide_eq_false hK1))) ?_; clear hE a; intro a hE
     refine Rv.dq (v := Value.bool false) p18_14_7 ns18_14 hE wn_none ⟨B_gd, B_g1, trivial⟩ (fun W hS => (st_move rfl)) ?_; clear hE a; intro a hE
     refine Rv.dk p18_14_8 ns18_14 hE (wn_some g18_14_7 rfl rfl) ⟨B_gd, B_g1, trivial⟩ ?_; clear hE a; intro a hE
     refine Rv.dk p18_14_9 ns18_14 hE (wn_some g18_14_7 rfl rfl) ⟨B_gd, B_g1, trivial⟩ ?_; clear hE a; intro a hE
     refine Rv.dk p18_14_10 ns18_14 hE (wn_some g18_14_7 rfl rfl) ⟨B_gd, B_g1, trivial⟩ ?_; clear hE a; intro a hE
     refine Rv.dk p18_14_11 ns18_14 hE (wn_some g18_14_7 rfl rfl) ⟨B_gd, B_g1, trivial⟩ ?_; clear hE a; intro a hE
     refine Rv.dk p18_14_12 ns18_14 hE (wn_some g18_14_7 rfl rfl) ⟨B_gd, B_g1, trivial⟩ ?_; clear hE a; intro a hE
     refine Rv.dk p18_14_13 ns18_14 hE (wn_some g18_14_7 rfl rfl) ⟨B_gd, B_g1, trivial⟩ ?_; clear hE a; intro a hE
     refine Rv.dk p18_14_14 ns18_14 hE (wn_some g18_14_7 rfl rfl) ⟨B_gd, B_g1, trivial⟩ ?_; clear hE a; intro a hE
     refine Rv.dk p18_14_15 ns18_14 hE (wn_some g18_14_7 rfl rfl) ⟨B_gd, B_g1, trivial⟩ ?_; clear hE a; intro a hE
     refine Rv.dk p18_14_16 ns18_14 hE (wn_some g18_14_7 rfl rfl) ⟨B_gd, B_g1, trivial⟩ ?_; clear hE a; intro a hE
     refine Rv.dk p18_14_17 ns18_14 hE (wn_some g18_14_7 rfl rfl) ⟨B_gd, B_g1, trivial⟩ ?_; clear hE a; intro a hE
     refine Rv.dk p18_14_18 ns18_14 hE (wn_some g18_14_7 rfl rfl) ⟨B_gd, B_g1, trivial⟩ ?_; clear hE a; intro a hE
     refine Rv.dq (v := Value.bool false) p18_14_19 ns18_14 hE wn_none ⟨B_gd, B_g1, trivial⟩ (fun W hS => (st_pick rfl rfl)) ?_; clear hE a; intro a hE
     refine d_end (by kernel_rfl) ?_
     refine x_norm ?_
     refine c_cond (t := false) hE rfl ?_
     refine wp_exit (x_exit (x_exit ?_))
     have hhigh : ∀ p, L[i]? = some p → ¬ p.1 < r.1 := fun q hq => by have := (List.getElem?_eq_some_iff.1 hq).1; omega
     have hj9 : True := trivial
     refine x_in (x_norm ?_)
     have hE2 : En 118 a [(0, Value.pointer (some ⟨gd, 0, none⟩)), (3, Value.pointer (some ⟨g1, 0, none⟩)), (8, Value.int .i64 (i : Int))] := En.sub hE ⟨rfl, rfl, rfl, trivial⟩
     have e9 : learnR L r = L.take i ++ r :: L.drop i := by unfold learnR; rw [if_pos hb5, ho]; exact ins_at hi9 hlow hhigh
     rw [e9]
     exact learn16 w w134 gd A c L r i g1 B_gd O_L hcA (by omega) Nb_L_gd Nb_L_g1 B_g1 n_gd_g1 K_0 (by omega) (fun A' c' W' h1 h2 h3 h4 h5 => ⟨A', c', _, rfl, h1, h2, h3, fun k h => .inr (h4 k h), h5⟩) _ hE2
 ·
  rw [hb5] at hE
  refine c_cond (t := true) hE rfl ?_
  refine c_reg R18_2_l ?_
  refine q0 p18_2_0 hE (st_assign rfl) ?_; clear hE a; intro a hE
  refine p_nil (x_norm (wp_ret (x_ret ?_)))
  refine ret_one (v := Value.int .i64 1) rfl hE (.tmp rfl .nil) ?_
  have e9 : learnR L r = L := by unfold learnR; rw [if_neg (by rw [hb5]; decide)]
  rw [e9]
  exact ⟨A, c, _, rfl, B_gd, O_L, hcA, fun k h => .inl h, K_0⟩
end Go.Proofs.YtnmlckaeheiodaaDoor.Rd19
