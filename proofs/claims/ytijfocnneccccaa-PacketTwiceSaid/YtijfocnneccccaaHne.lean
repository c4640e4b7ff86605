/- Package packet: the steps that look further. -/
import Derived.Test.YtijfocnneccccaaHnd
set_option maxRecDepth 100000
set_option linter.unusedVariables false
set_option linter.unusedSimpArgs false
namespace Go.Proofs.Ytijfocnneccccaa.Hk2
open Go.RowKit Go.Proofs.YtijfocnneccccaaW.PrintWords Go.Proofs.Ytijfocnneccccaa.Ds Go.Proofs.Ytijfocnneccccaa.Ad Go.Proofs.Ytijfocnneccccaa.Hd Go.Proofs.Ytijfocnneccccaa.Hw Go.Proofs.Ytijfocnneccccaa.Hp Go.Proofs.Ytijfocnneccccaa.Dg Go.Proofs.Ytijfocnneccccaa.Rx Go.Proofs.Ytijfocnneccccaa.Hk
open Go.Proofs.Ytijfocnneccccaa.Pk (Kp fitsF spanF putF digF fits_any put_ok)
open Go.Proofs.Ytijfocnneccccaa.Mi (st_eqlP MapI)
theorem R74_0_l : List.range (regOf Try.f74 0).size = [0] := by kernel_rfl
theorem R74_3_l : List.range (regOf Try.f74 3).size = [0] := by kernel_rfl
theorem R74_4_l : List.range (regOf Try.f74 4).size = [0, 1, 2, 3, 4, 5, 6, 7, 8, 9, 10, 11] := by kernel_rfl
theorem R74_5_l : List.range (regOf Try.f74 5).size = [0, 1, 2] := by kernel_rfl
theorem body74 : Try.f74.body = some (.seq (.region 0 (regOf Try.f74 0) false) (.seq (.region 1 (regOf Try.f74 1) true) (.seq (.seq (.region 2 (regOf Try.f74 2) true) (.cond (Operand.tmp 44) (.seq (.region 3 (regOf Try.f74 3) false) (.ret)) (.skip))) (.seq (.region 4 (regOf Try.f74 4) false) (.seq (.region 5 (regOf Try.f74 5) false) (.ret)))))) := by kernel_rfl
theorem p74_0_0 : pj (regOf Try.f74 0) 0 = some (some 2, .assign (.const (.int .i64 0)), 36, none) := by kernel_rfl
theorem ns74_1 : Region.noSelect (regOf Try.f74 1) = true := by kernel_rfl
theorem p74_1_0 : pj (regOf Try.f74 1) 0 = some (some 6, .move (.tmp 0), 94, none) := by kernel_rfl
theorem p74_1_1 : pj (regOf Try.f74 1) 1 = some (some 7, .nilCheck (.tmp 6), 0, none) := by kernel_rfl
theorem p74_1_2 : pj (regOf Try.f74 1) 2 = some (some 8, .fieldAddr 96 (.tmp 7) 1, 0, none) := by kernel_rfl
theorem tS41 : (Try.prog.info? 41).map (·.size) = some 4 := by kernel_rfl
theorem p74_1_3 : pj (regOf Try.f74 1) 3 = some (some 9, .fieldAddr 41 (.tmp 8) 3, 0, none) := by kernel_rfl
theorem tS39 : (Try.prog.info? 39).map (·.size) = some 1 := by kernel_rfl
theorem p74_1_4 : pj (regOf Try.f74 1) 4 = some (some 10, .load 39 (.tmp 9), 39, none) := by kernel_rfl
theorem tA39 : (Try.prog.underlying 39).map aggD = some false := by kernel_rfl
theorem p74_1_5 : pj (regOf Try.f74 1) 5 = some (some 11, .move (.tmp 0), 94, none) := by kernel_rfl
theorem p74_1_6 : pj (regOf Try.f74 1) 6 = some (some 12, .nilCheck (.tmp 11), 0, none) := by kernel_rfl
theorem p74_1_7 : pj (regOf Try.f74 1) 7 = some (some 13, .fieldAddr 96 (.tmp 12) 2, 0, none) := by kernel_rfl
theorem tS3 : (Try.prog.info? 3).map (·.size) = some 1 := by kernel_rfl
theorem p74_1_8 : pj (regOf Try.f74 1) 8 = some (some 14, .load 3 (.tmp 13), 3, none) := by kernel_rfl
theorem tA3 : (Try.prog.underlying 3).map aggD = some false := by kernel_rfl
theorem p74_1_9 : pj (regOf Try.f74 1) 9 = some (some 15, .call { callee := .value (.func 111), args := #[.tmp 10, .tmp 14], argTypes := #[39, 3] }, 186, none) := by kernel_rfl
theorem cl111 : callable Try.f111 = true := by kernel_rfl
theorem p74_1_10 : pj (regOf Try.f74 1) 10 = some (some 5, .move (.tmp 15), 186, none) := by kernel_rfl
theorem p74_1_11 : pj (regOf Try.f74 1) 11 = some (some 16, .extract (.tmp 5) 0, 185, none) := by kernel_rfl
theorem p74_1_12 : pj (regOf Try.f74 1) 12 = some (some 17, .extract (.tmp 5) 1, 36, none) := by kernel_rfl
theorem p74_1_13 : pj (regOf Try.f74 1) 13 = some (some 3, .alloc 185, 0, none) := by kernel_rfl
theorem tZ185 : (Try.prog.info? 185).bind (·.zero) = some (Value.agg #[Value.int .i64 0, Value.int .i64 0, Value.int .i64 0, Value.int .i64 0]) := by kernel_rfl
theorem p74_1_14 : pj (regOf Try.f74 1) 14 = some (none, .store 185 (.tmp 3) (.tmp 16), 0, none) := by kernel_rfl
theorem tS185 : (Try.prog.info? 185).map (·.size) = some 4 := by kernel_rfl
theorem p74_1_15 : pj (regOf Try.f74 1) 15 = some (some 4, .assign (.tmp 17), 36, none) := by kernel_rfl
theorem ns74_2 : Region.noSelect (regOf Try.f74 2) = true := by kernel_rfl
theorem p74_2_0 : pj (regOf Try.f74 2) 0 = some (some 18, .move (.tmp 0), 94, none) := by kernel_rfl
theorem p74_2_1 : pj (regOf Try.f74 2) 1 = some (some 19, .nilCheck (.tmp 18), 0, none) := by kernel_rfl
theorem p74_2_2 : pj (regOf Try.f74 2) 2 = some (some 20, .fieldAddr 96 (.tmp 19) 3, 0, none) := by kernel_rfl
theorem p74_2_3 : pj (regOf Try.f74 2) 3 = some (some 21, .load 3 (.tmp 20), 3, none) := by kernel_rfl
theorem p74_2_4 : pj (regOf Try.f74 2) 4 = some (some 22, .binOp .eql 3 (.tmp 21) (.const (.int .i64 (-1))) 3, 4, none) := by kernel_rfl
theorem p74_2_5 : pj (regOf Try.f74 2) 5 = some (some 23, .move (.tmp 22), 4, none) := by kernel_rfl
theorem g74_2_5 : dstOf (regOf Try.f74 2) 5 = some 23 := by kernel_rfl
theorem p74_2_6 : pj (regOf Try.f74 2) 6 = some (some 24, .move (.tmp 0), 94, some (5, false)) := by kernel_rfl
theorem p74_2_7 : pj (regOf Try.f74 2) 7 = some (some 25, .nilCheck (.tmp 24), 0, some (5, false)) := by kernel_rfl
theorem p74_2_8 : pj (regOf Try.f74 2) 8 = some (some 26, .fieldAddr 96 (.tmp 25) 0, 0, some (5, false)) := by kernel_rfl
theorem tS35 : (Try.prog.info? 35).map (·.size) = some 73 := by kernel_rfl
theorem p74_2_9 : pj (regOf Try.f74 2) 9 = some (some 27, .fieldAddr 35 (.tmp 26) 3, 0, some (5, false)) := by kernel_rfl
theorem tS32 : (Try.prog.info? 32).map (·.size) = some 5 := by kernel_rfl
theorem p74_2_10 : pj (regOf Try.f74 2) 10 = some (some 28, .fieldAddr 32 (.tmp 27) 2, 0, some (5, false)) := by kernel_rfl
theorem tS4 : (Try.prog.info? 4).map (·.size) = some 1 := by kernel_rfl
theorem p74_2_11 : pj (regOf Try.f74 2) 11 = some (some 29, .load 4 (.tmp 28), 4, some (5, false)) := by kernel_rfl
theorem tA4 : (Try.prog.underlying 4).map aggD = some false := by kernel_rfl
theorem p74_2_12 : pj (regOf Try.f74 2) 12 = some (some 30, .unOp .not 4 (.tmp 29), 4, some (5, false)) := by kernel_rfl
theorem p74_2_13 : pj (regOf Try.f74 2) 13 = some (some 31, .pick (.tmp 23) (.const (.bool true)) (.tmp 30), 4, none) := by kernel_rfl
theorem p74_2_14 : pj (regOf Try.f74 2) 14 = some (some 32, .move (.tmp 31), 4, none) := by kernel_rfl
theorem g74_2_14 : dstOf (regOf Try.f74 2) 14 = some 32 := by kernel_rfl
theorem p74_2_15 : pj (regOf Try.f74 2) 15 = some (some 33, .move (.tmp 4), 36, some (14, false)) := by kernel_rfl
theorem p74_2_16 : pj (regOf Try.f74 2) 16 = some (some 34, .binOp .neq 36 (.tmp 33) (.const (.int .i64 0)) 36, 4, some (14, false)) := by kernel_rfl
theorem p74_2_17 : pj (regOf Try.f74 2) 17 = some (some 35, .pick (.tmp 32) (.const (.bool true)) (.tmp 34), 4, none) := by kernel_rfl
theorem p74_2_18 : pj (regOf Try.f74 2) 18 = some (some 36, .move (.tmp 35), 4, none) := by kernel_rfl
theorem g74_2_18 : dstOf (regOf Try.f74 2) 18 = some 36 := by kernel_rfl
theorem p74_2_19 : pj (regOf Try.f74 2) 19 = some (some 37, .fieldAddr 185 (.tmp 3) 1, 0, some (18, false)) := by kernel_rfl
theorem p74_2_20 : pj (regOf Try.f74 2) 20 = some (some 38, .load 3 (.tmp 37), 3, some (18, false)) := by kernel_rfl
theorem p74_2_21 : pj (regOf Try.f74 2) 21 = some (some 39, .move (.tmp 0), 94, some (18, false)) := by kernel_rfl
theorem p74_2_22 : pj (regOf Try.f74 2) 22 = some (some 40, .nilCheck (.tmp 39), 0, some (18, false)) := by kernel_rfl
theorem p74_2_23 : pj (regOf Try.f74 2) 23 = some (some 41, .fieldAddr 96 (.tmp 40) 3, 0, some (18, false)) := by kernel_rfl
theorem p74_2_24 : pj (regOf Try.f74 2) 24 = some (some 42, .load 3 (.tmp 41), 3, some (18, false)) := by kernel_rfl
theorem p74_2_25 : pj (regOf Try.f74 2) 25 = some (some 43, .binOp .neq 3 (.tmp 38) (.tmp 42) 3, 4, some (18, false)) := by kernel_rfl
theorem p74_2_26 : pj (regOf Try.f74 2) 26 = some (some 44, .pick (.tmp 36) (.const (.bool true)) (.tmp 43), 4, none) := by kernel_rfl
theorem P74_4 : (List.range (regOf Try.f74 4).size).map (pj (regOf Try.f74 4)) = [zz 45 (.move (.tmp 0)) 94, zz 46 (.move (.tmp 0)) 94, zz 47 (.nilCheck (.tmp 45)) 0, zz 48 (.fieldAddr 96 (.tmp 47) 0) 0, zz 49 (.fieldAddr 35 (.tmp 48) 3) 0, zz 50 (.fieldAddr 32 (.tmp 49) 2) 0, some (none, .store 4 (.tmp 50) (.const (.bool false)), 0, none), zz 51 (.nilCheck (.tmp 46)) 0, zz 52 (.fieldAddr 96 (.tmp 51) 0) 0, zz 53 (.fieldAddr 35 (.tmp 52) 3) 0, zz 54 (.fieldAddr 32 (.tmp 53) 0) 0, some (none, .store 4 (.tmp 54) (.const (.bool false)), 0, none)] := by kernel_rfl
theorem P74_5 : (List.range (regOf Try.f74 5).size).map (pj (regOf Try.f74 5)) = [zz 55 (.move (.tmp 0)) 94, zz 56 (.call { callee := .value (.func 109), args := #[.tmp 55, .const (.int .i64 4), .const (.int .i64 (-1))], argTypes := #[94, 3, 3] }) 36, zz 2 (.assign (.tmp 56)) 36] := by kernel_rfl
theorem cl109 : callable Try.f109 = true := by kernel_rfl
theorem p74_3_0 : pj (regOf Try.f74 3) 0 = some (some 2, .assign (.const (.int .i64 0)), 36, none) := by kernel_rfl
set_option maxHeartbeats 4000000 in
theorem lost_y (cl fw ln nx hp : Int) (sa da : Nat → Int) (mv : Nat → Value) (dn wr fa : Bool) (ins rk num : Int) (T : Option Addr) (cT : Nat) (l : List Int) (nd pf : Int) (rt : Bool) (RV : Value) (tg came own least : Int) (wg : Bool) (gh : Nat) (hmv : ∀ j, (mv j).oneCell' = true) (w : World) (v : Int → Int) (g : Int → Int × Int × Int) (er : Int) (hT : Tb RV v g er w (fun k => k = gh)) (hce : came = -1 ∨ 0 ≤ came) (h0 : ¬ came = -1) (hB : w.heap[gh]? = some (.cells (HA cl fw ln nx hp sa da true mv dn wr fa ins rk num T l.length cT nd pf rt RV tg came own least wg).toArray 96 (0, 0))) (F_T : ∀ W', Kp w W' (fun k => k = gh) → Kd.C (Kd.int .u8) W' T l.length l) (hml : l.length ≤ 900000) : Calls Try.prog 74 #[Value.pointer (some ⟨gh, 0, none⟩)] w fun e w' => ((fa && decide (v tg = came)) = false ∧ e = .returned (.int .i64 0) ∧ w'.heap[gh]? = some (.cells (HA cl fw ln nx hp sa da true mv dn wr fa ins rk num T l.length cT nd pf rt RV tg came own least wg).toArray 96 (0, 0)) ∧ Kp w w' (fun k => k = gh)) ∨ ((fa && decide (v tg = came)) = true ∧ e = .returned (.int .i64 0) ∧ w'.heap[gh]? = some (.cells (HB cl fw ln nx hp sa da true mv false wr false ins rk num T l.length cT nd pf rt RV tg came own least 4 (-1) wg).toArray 96 (0, 0)) ∧ Kp w w' (fun k => k = gh)) := by
 have K_0 := Kp.refl w (fun k => k = gh)
 have B_gh := hB
 refine enter (args := [Value.pointer (some ⟨gh, 0, none⟩)]) (n := 57) Try.func74 body74 rfl rfl rfl ?_
 intro a hE
 refine c_reg R74_0_l ?_
 refine q0 p74_0_0 hE (st_assign rfl) ?_; clear hE a; intro a hE
 refine p_nil (x_norm ?_)
 rcases Decidable.em (0 ≤ v tg) with hHAS | hHAS
 ·
  refine c_drawMS (S := fun W => W.heap[gh]? = some (.cells (HA cl fw ln nx hp sa da true mv dn wr fa ins rk num T l.length cT nd pf rt RV tg came own least wg).toArray 96 (0, 0)) ∧ True) rfl rfl (listed := #[ι, ι, ι, ι, ι, ι, ι, ι, ι, ι, ι, ι, ι, ι, ι, ι]) rfl pan_body (fun QQ hQ hend => ?_)
  have dr1_4 : ∀ (g1_13 : Nat) (W : World) (a : Act), En 57 a [(0, Value.pointer (some ⟨gh, 0, none⟩)), (2, Value.int .i64 0), (3, Value.pointer (some ⟨g1_13, 0, none⟩)), (4, Value.int .i64 0), (5, Value.tuple #[Value.agg #[Value.int .i64 ((g tg).1), Value.int .i64 (v tg), Value.int .i64 ((g tg).2.1), Value.int .i64 ((g tg).2.2)], Value.int .i64 0]), (6, Value.pointer (some ⟨gh, 0, none⟩)), (7, Value.pointer (some ⟨gh, 0, none⟩)), (8, Value.pointer (some ⟨gh, 73, none⟩)), (9, Value.pointer (some ⟨gh, 76, none⟩)), (10, RV), (11, Value.pointer (some ⟨gh, 0, none⟩)), (12, Value.pointer (some ⟨gh, 0, none⟩)), (13, Value.pointer (some ⟨gh, 77, none⟩)), (14, Value.int .i64 tg), (15, Value.tuple #[Value.agg #[Value.int .i64 ((g tg).1), Value.int .i64 (v tg), Value.int .i64 ((g tg).2.1), Value.int .i64 ((g tg).2.2)], Value.int .i64 0]), (16, Value.agg #[Value.int .i64 ((g tg).1), Value.int .i64 (v tg), Value.int .i64 ((g tg).2.1), Value.int .i64 ((g tg).2.2)]), (17, Value.int .i64 0)] → W.heap[gh]? = some (.cells (HA cl fw ln nx hp sa da true mv dn wr fa ins rk num T l.length cT nd pf rt RV tg came own least wg).toArray 96 (0, 0)) → W.heap[g1_13]? = some (.cells #[Value.int .i64 ((g tg).1), Value.int .i64 (v tg), Value.int .i64 ((g tg).2.1), Value.int .i64 ((g tg).2.2)] 185 (0, 0)) → g1_13 ≠ gh → w.heap.size ≤ g1_13 → Kp w W (fun k => k = gh) → wpAnyH Try.prog .any (regOf Try.f74 1) QQ (fun W => W.heap[gh]? = some (.cells (HA cl fw ln nx hp sa da true mv dn wr fa ins rk num T l.length cT nd pf rt RV tg came own least wg).toArray 96 (0, 0)) ∧ True) 0 #[κ, κ, κ, κ, κ, κ, κ, κ, κ, κ, κ, κ, κ, κ, κ, κ] a W := by
   intro g1_13 w9 a hE B_gh B_g1_13 n_g1_13_gh z_0_g1_13 K_0
   refine d_end (by kernel_rfl) (hend _ _ ?_)
   refine wp_seq ?_
   rcases Decidable.em (fa = true) with hFA | hFA
   ·
    have hfa9 : fa = true := by simpa using hFA
    subst hfa9
    rcases Decidable.em (v tg = came) with hVC | hVC
    ·
     refine c_drawS (S := fun W => W.heap[gh]? = some (.cells (HA cl fw ln nx hp sa da true mv dn wr true ins rk num T l.length cT nd pf rt RV tg came own least wg).toArray 96 (0, 0)) ∧ W.heap[g1_13]? = some (.cells #[Value.int .i64 ((g tg).1), Value.int .i64 (v tg), Value.int .i64 ((g tg).2.1), Value.int .i64 ((g tg).2.2)] 185 (0, 0)) ∧ True) rfl rfl (listed := #[ι, ι, ι, ι, ι, ι, ι, ι, ι, ι, ι, ι, ι, ι, ι, ι, ι, ι, ι, ι, ι, ι, ι, ι, ι, ι, ι]) rfl ?_
     intro w10 hh hk
     replace B_gh := kp_blk B_gh hk (fun h => h)
     replace B_g1_13 := kp_blk B_g1_13 hk (fun h => h)
     replace K_0 := K_0.then_ hk (fun _ h => h.elim)
     clear hh hk
     refine Rv.dm ns74_2 hE ⟨B_gh, B_g1_13, trivial⟩ (Rv.dc p74_2_0 (fun W hS => (st_move rfl)) rfl (Rv.dc p74_2_1 (fun W hS => (st_nil rfl)) rfl (Rv.dc (v := Value.pointer (some ⟨gh, 78, none⟩)) p74_2_2 (fun W hS => (st_fieldAddr Try.underlying96 rfl tS3 rfl rfl)) rfl (Rv.dc (v := Value.int .i64 came) p74_2_3 (fun W hS => (st_load1 tA3 rfl ((blk_cell hS.1 78).trans rfl))) rfl (Rv.dc (v := Value.bool false) p74_2_4 (fun W hS => (st_eql (b := false) rfl rfl (decide_eq_false h0))) rfl (Rv.dc p74_2_5 (fun W hS => (st_move rfl)) rfl (Rv.dg p74_2_6 (wn_some g74_2_5 rfl rfl) (fun W hS => (st_move rfl)) rfl (Rv.dg p74_2_7 (wn_some g74_2_5 rfl rfl) (fun W hS => (st_nil rfl)) rfl (Rv.dg (v := Value.pointer (some ⟨gh, 0, none⟩)) p74_2_8 (wn_some g74_2_5 rfl rfl) (fun W hS => (st_fieldAddr Try.underlying96 rfl tS35 rfl rfl)) rfl (Rv.dg (v := Value.pointer (some ⟨gh, 66, none⟩)) p74_2_9 (wn_some g74_2_5 rfl rfl) (fun W hS => (st_fieldAddr Try.underlying35 rfl tS32 rfl rfl)) rfl (Rv.dg (v := Value.pointer (some ⟨gh, 68, none⟩)) p74_2_10 (wn_some g74_2_5 rfl rfl) (fun W hS => (st_fieldAddr Try.underlying32 rfl tS4 rfl rfl)) rfl (Rv.dg (v := Value.bool true) p74_2_11 (wn_some g74_2_5 rfl rfl) (fun W hS => (st_load1 tA4 rfl ((blk_cell hS.1 68).trans rfl))) rfl (Rv.dg (v := Value.bool false) p74_2_12 (wn_some g74_2_5 rfl rfl) (fun W hS => (st_not rfl rfl)) rfl (Rv.dc p74_2_13 (fun W hS => (st_pick rfl rfl)) rfl (Rv.dc p74_2_14 (fun W hS => (st_move rfl)) rfl (Rv.dg p74_2_15 (wn_some g74_2_14 rfl rfl) (fun W hS => (st_move rfl)) rfl (Rv.dg (v := Value.bool false) p74_2_16 (wn_some g74_2_14 rfl rfl) (fun W hS => (st_neq (b := false) rfl rfl (by decide))) rfl (Rv.dc p74_2_17 (fun W hS => (st_pick rfl rfl)) rfl (Rv.dc p74_2_18 (fun W hS => (st_move rfl)) rfl (Rv.dg (v := Value.pointer (some ⟨g1_13, 1, none⟩)) p74_2_19 (wn_some g74_2_18 rfl rfl) (fun W hS => (st_fieldAddr Try.underlying185 rfl tS3 rfl rfl)) rfl (Rv.dg (v := Value.int .i64 (v tg)) p74_2_20 (wn_some g74_2_18 rfl rfl) (fun W hS => (st_load1 tA3 rfl ((blk_cell hS.2.1 1).trans rfl))) rfl (Rv.dg p74_2_21 (wn_some g74_2_18 rfl rfl) (fun W hS => (st_move rfl)) rfl (Rv.dg p74_2_22 (wn_some g74_2_18 rfl rfl) (fun W hS => (st_nil rfl)) rfl (Rv.dg (v := Value.pointer (some ⟨gh, 78, none⟩)) p74_2_23 (wn_some g74_2_18 rfl rfl) (fun W hS => (st_fieldAddr Try.underlying96 rfl tS3 rfl rfl)) rfl (Rv.dg (v := Value.int .i64 came) p74_2_24 (wn_some g74_2_18 rfl rfl) (fun W hS => (st_load1 tA3 rfl ((blk_cell hS.1 78).trans rfl))) rfl (Rv.dg (v := Value.bool false) p74_2_25 (wn_some g74_2_18 rfl rfl) (fun W hS => (st_neq (b := false) rfl rfl (by rw [decide_eq_true hVC]; rfl))) rfl (Rv.dc p74_2_26 (fun W hS => (st_pick rfl rfl)) rfl Rv.dn))))))))))))))))))))))))))) ?_; clear hE a; intro a hE
     refine d_end (by kernel_rfl) ?_
     refine x_norm ?_
     refine c_cond (t := false) hE rfl ?_
     refine wp_skip (x_norm (c_reg R74_4_l ?_))
     refine qn hE (rc (pl P74_4 0) (st_move rfl) (rc (pl P74_4 1) (st_move rfl) (rc (pl P74_4 2) (st_nil rfl) (rc (pl P74_4 3) (st_fieldAddr Try.underlying96 rfl tS35 rfl rfl) (rc (pl P74_4 4) (st_fieldAddr Try.underlying35 rfl tS32 rfl rfl) (rc (pl P74_4 5) (st_fieldAddr Try.underlying32 rfl tS4 rfl rfl) rn)))))) ?_; clear hE a; intro a hE
     refine p_cons (s_store (off := 68) (k := 1) (cs' := (HA cl fw ln nx hp sa da true mv dn wr false ins rk num T l.length cT nd pf rt RV tg came own least wg).toArray) (pl P74_4 6) hE wn_none tS4 rfl rfl rfl rfl B_gh (Nat.le_of_ble_eq_true rfl) rfl ?_)
     intro w11 B_gh' hk
     replace B_g1_13 := kp_blk B_g1_13 hk n_g1_13_gh
     replace K_0 := K_0.then_ hk (fun k h => by rw [show k = gh from h]; exact Or.inl rfl)
     replace B_gh := B_gh'
     clear hk
     refine qn hE (rc (pl P74_4 7) (st_nil rfl) (rc (pl P74_4 8) (st_fieldAddr Try.underlying96 rfl tS35 rfl rfl) (rc (pl P74_4 9) (st_fieldAddr Try.underlying35 rfl tS32 rfl rfl) (rc (pl P74_4 10) (st_fieldAddr Try.underlying32 rfl tS4 rfl rfl) rn)))) ?_; clear hE a; intro a hE
     refine p_cons (s_store (off := 66) (k := 1) (cs' := (HA cl fw ln nx hp sa da true mv false wr false ins rk num T l.length cT nd pf rt RV tg came own least wg).toArray) (pl P74_4 11) hE wn_none tS4 rfl rfl rfl rfl B_gh (Nat.le_of_ble_eq_true rfl) rfl ?_)
     intro w12 B_gh' hk
     replace B_g1_13 := kp_blk B_g1_13 hk n_g1_13_gh
     replace K_0 := K_0.then_ hk (fun k h => by rw [show k = gh from h]; exact Or.inl rfl)
     replace B_gh := B_gh'
     clear hk
     refine p_nil (x_norm (c_reg R74_5_l ?_))
     refine q0 (pl P74_5 0) hE (st_move rfl) ?_; clear hE a; intro a hE
     refine p_cons (s_call (xs := [Operand.tmp 55, Operand.const (Value.int IntKind.i64 4), Operand.const (Value.int IntKind.i64 (-1))]) (args := [Value.pointer (some ⟨gh, 0, none⟩), Value.int .i64 4, Value.int .i64 (-1)]) (pl P74_5 1) hE wn_none rfl rfl Try.func109 cl109 (end_any cl fw ln nx hp sa da mv false wr false ins rk num T cT l nd pf rt RV tg came own least wg gh 4 (-1) hmv _ B_gh) ?_)
     rintro e w13 ⟨rfl, B_gh', hk⟩
     replace B_g1_13 := kp_blk B_g1_13 hk n_g1_13_gh
     replace K_0 := K_0.then_ hk (fun k h => by rw [show k = gh from h]; exact Or.inl rfl)
     replace B_gh := B_gh'
     refine ⟨_, rfl, ?_⟩; clear hE a; intro a hE
     refine q0 (pl P74_5 2) hE (st_assign rfl) ?_; clear hE a; intro a hE
     refine p_nil (x_norm (wp_ret ?_))
     refine ret_one (v := Value.int .i64 0) rfl hE (.tmp rfl .nil) ?_
     exact .inr ⟨by rw [decide_eq_true hVC]; rfl, rfl, B_gh, K_0⟩
    ·
     refine c_drawS (S := fun W => W.heap[gh]? = some (.cells (HA cl fw ln nx hp sa da true mv dn wr true ins rk num T l.length cT nd pf rt RV tg came own least wg).toArray 96 (0, 0)) ∧ W.heap[g1_13]? = some (.cells #[Value.int .i64 ((g tg).1), Value.int .i64 (v tg), Value.int .i64 ((g tg).2.1), Value.int .i64 ((g tg).2.2)] 185 (0, 0)) ∧ True) rfl rfl (listed := #[ι, ι, ι, ι, ι, ι, ι, ι, ι, ι, ι, ι, ι, ι, ι, ι, ι, ι, ι, ι, ι, ι, ι, ι, ι, ι, ι]) rfl ?_
     intro w14 hh hk
     replace B_gh := kp_blk B_gh hk (fun h => h)
     replace B_g1_13 := kp_blk B_g1_13 hk (fun h => h)
     replace K_0 := K_0.then_ hk (fun _ h => h.elim)
     clear hh hk
     refine Rv.dm ns74_2 hE ⟨B_gh, B_g1_13, trivial⟩ (Rv.dc p74_2_0 (fun W hS => (st_move rfl)) rfl (Rv.dc p74_2_1 (fun W hS => (st_nil rfl)) rfl (Rv.dc (v := Value.pointer (some ⟨gh, 78, none⟩)) p74_2_2 (fun W hS => (st_fieldAddr Try.underlying96 rfl tS3 rfl rfl)) rfl (Rv.dc (v := Value.int .i64 came) p74_2_3 (fun W hS => (st_load1 tA3 rfl ((blk_cell hS.1 78).trans rfl))) rfl (Rv.dc (v := Value.bool false) p74_2_4 (fun W hS => (st_eql (b := false) rfl rfl (decide_eq_false h0))) rfl (Rv.dc p74_2_5 (fun W hS => (st_move rfl)) rfl (Rv.dg p74_2_6 (wn_some g74_2_5 rfl rfl) (fun W hS => (st_move rfl)) rfl (Rv.dg p74_2_7 (wn_some g74_2_5 rfl rfl) (fun W hS => (st_nil rfl)) rfl (Rv.dg (v := Value.pointer (some ⟨gh, 0, none⟩)) p74_2_8 (wn_some g74_2_5 rfl rfl) (fun W hS => (st_fieldAddr Try.underlying96 rfl tS35 rfl rfl)) rfl (Rv.dg (v := Value.pointer (some ⟨gh, 66, none⟩)) p74_2_9 (wn_some g74_2_5 rfl rfl) (fun W hS => (st_fieldAddr Try.underlying35 rfl tS32 rfl rfl)) rfl (Rv.dg (v := Value.pointer (some ⟨gh, 68, none⟩)) p74_2_10 (wn_some g74_2_5 rfl rfl) (fun W hS => (st_fieldAddr Try.underlying32 rfl tS4 rfl rfl)) rfl (Rv.dg (v := Value.bool true) p74_2_11 (wn_some g74_2_5 rfl rfl) (fun W hS => (st_load1 tA4 rfl ((blk_cell hS.1 68).trans rfl))) rfl (Rv.dg (v := Value.bool false) p74_2_12 (wn_some g74_2_5 rfl rfl) (fun W hS => (st_not rfl rfl)) rfl (Rv.dc p74_2_13 (fun W hS => (st_pick rfl rfl)) rfl (Rv.dc p74_2_14 (fun W hS => (st_move rfl)) rfl (Rv.dg p74_2_15 (wn_some g74_2_14 rfl rfl) (fun W hS => (st_move rfl)) rfl (Rv.dg (v := Value.bool false) p74_2_16 (wn_some g74_2_14 rfl rfl) (fun W hS => (st_neq (b := false) rfl rfl (by decide))) rfl (Rv.dc p74_2_17 (fun W hS => (st_pick rfl rfl)) rfl (Rv.dc p74_2_18 (fun W hS => (st_move rfl)) rfl (Rv.dg (v := Value.pointer (some ⟨g1_13, 1, none⟩)) p74_2_19 (wn_some g74_2_18 rfl rfl) (fun W hS => (st_fieldAddr Try.underlying185 rfl tS3 rfl rfl)) rfl (Rv.dg (v := Value.int .i64 (v tg)) p74_2_20 (wn_some g74_2_18 rfl rfl) (fun W hS => (st_load1 tA3 rfl ((blk_cell hS.2.1 1).trans rfl))) rfl (Rv.dg p74_2_21 (wn_some g74_2_18 rfl rfl) (fun W hS => (st_move rfl)) rfl (Rv.dg p74_2_22 (wn_some g74_2_18 rfl rfl) (fun W hS => (st_nil rfl)) rfl (Rv.dg (v := Value.pointer (some ⟨gh, 78, none⟩)) p74_2_23 (wn_some g74_2_18 rfl rfl) (fun W hS => (st_fieldAddr Try.underlying96 rfl tS3 rfl rfl)) rfl (Rv.dg (v := Value.int .i64 came) p74_2_24 (wn_some g74_2_18 rfl rfl) (fun W hS => (st_load1 tA3 rfl ((blk_cell hS.1 78).trans rfl))) rfl (Rv.dg (v := Value.bool true) p74_2_25 (wn_some g74_2_18 rfl rfl) (fun W hS => (st_neq (b := true) rfl rfl (by rw [decide_eq_false hVC]; rfl))) rfl (Rv.dc p74_2_26 (fun W hS => (st_pick rfl rfl)) rfl Rv.dn))))))))))))))))))))))))))) ?_; clear hE a; intro a hE
     refine d_end (by kernel_rfl) ?_
     refine x_norm ?_
     refine c_cond (t := true) hE rfl ?_
     refine c_reg R74_3_l ?_
     refine q0 p74_3_0 hE (st_assign rfl) ?_; clear hE a; intro a hE
     refine p_nil (x_norm (wp_ret (x_ret ?_)))
     refine ret_one (v := Value.int .i64 0) rfl hE (.tmp rfl .nil) ?_
     exact .inl ⟨by rw [decide_eq_false hVC]; rfl, rfl, B_gh, K_0⟩
   ·
    have hfa9 : fa = false := by simpa using hFA
    subst hfa9
    refine c_drawS (S := fun W => W.heap[gh]? = some (.cells (HA cl fw ln nx hp sa da true mv dn wr false ins rk num T l.length cT nd pf rt RV tg came own least wg).toArray 96 (0, 0)) ∧ W.heap[g1_13]? = some (.cells #[Value.int .i64 ((g tg).1), Value.int .i64 (v tg), Value.int .i64 ((g tg).2.1), Value.int .i64 ((g tg).2.2)] 185 (0, 0)) ∧ True) rfl rfl (listed := #[ι, ι, ι, ι, ι, ι, ι, ι, ι, ι, ι, ι, ι, ι, ι, ι, ι, ι, ι, ι, ι, ι, ι, ι, ι, ι, ι]) rfl ?_
    intro w15 hh hk
    replace B_gh := kp_blk B_gh hk (fun h => h)
    replace B_g1_13 := kp_blk B_g1_13 hk (fun h => h)
    replace K_0 := K_0.then_ hk (fun _ h => h.elim)
    clear hh hk
    refine Rv.dm ns74_2 hE ⟨B_gh, B_g1_13, trivial⟩ (Rv.dc p74_2_0 (fun W hS => (st_move rfl)) rfl (Rv.dc p74_2_1 (fun W hS => (st_nil rfl)) rfl (Rv.dc (v := Value.pointer (some ⟨gh, 78, none⟩)) p74_2_2 (fun W hS => (st_fieldAddr Try.underlying96 rfl tS3 rfl rfl)) rfl (Rv.dc (v := Value.int .i64 came) p74_2_3 (fun W hS => (st_load1 tA3 rfl ((blk_cell hS.1 78).trans rfl))) rfl (Rv.dc (v := Value.bool false) p74_2_4 (fun W hS => (st_eql (b := false) rfl rfl (decide_eq_false h0))) rfl (Rv.dc p74_2_5 (fun W hS => (st_move rfl)) rfl (Rv.dg p74_2_6 (wn_some g74_2_5 rfl rfl) (fun W hS => (st_move rfl)) rfl (Rv.dg p74_2_7 (wn_some g74_2_5 rfl rfl) (fun W hS => (st_nil rfl)) rfl (Rv.dg (v := Value.pointer (some ⟨gh, 0, none⟩)) p74_2_8 (wn_some g74_2_5 rfl rfl) (fun W hS => (st_fieldAddr Try.underlying96 rfl tS35 rfl rfl)) rfl (Rv.dg (v := Value.pointer (some ⟨gh, 66, none⟩)) p74_2_9 (wn_some g74_2_5 rfl rfl) (fun W hS => (st_fieldAddr Try.underlying35 rfl tS32 rfl rfl)) rfl (Rv.dg (v := Value.pointer (some ⟨gh, 68, none⟩)) p74_2_10 (wn_some g74_2_5 rfl rfl) (fun W hS => (st_fieldAddr Try.underlying32 rfl tS4 rfl rfl)) rfl (Rv.dg (v := Value.bool false) p74_2_11 (wn_some g74_2_5 rfl rfl) (fun W hS => (st_load1 tA4 rfl ((blk_cell hS.1 68).trans rfl))) rfl (Rv.dg (v := Value.bool true) p74_2_12 (wn_some g74_2_5 rfl rfl) (fun W hS => (st_not rfl rfl)) rfl (Rv.dc p74_2_13 (fun W hS => (st_pick rfl rfl)) rfl (Rv.dc p74_2_14 (fun W hS => (st_move rfl)) rfl (Rv.ds p74_2_15 (wn_some g74_2_14 rfl rfl) (Rv.ds p74_2_16 (wn_some g74_2_14 rfl rfl) (Rv.dc p74_2_17 (fun W hS => (st_pick rfl rfl)) rfl (Rv.dc p74_2_18 (fun W hS => (st_move rfl)) rfl (Rv.ds p74_2_19 (wn_some g74_2_18 rfl rfl) (Rv.ds p74_2_20 (wn_some g74_2_18 rfl rfl) (Rv.ds p74_2_21 (wn_some g74_2_18 rfl rfl) (Rv.ds p74_2_22 (wn_some g74_2_18 rfl rfl) (Rv.ds p74_2_23 (wn_some g74_2_18 rfl rfl) (Rv.ds p74_2_24 (wn_some g74_2_18 rfl rfl) (Rv.ds p74_2_25 (wn_some g74_2_18 rfl rfl) (Rv.dc p74_2_26 (fun W hS => (st_pick rfl rfl)) rfl Rv.dn))))))))))))))))))))))))))) ?_; clear hE a; intro a hE
    refine d_end (by kernel_rfl) ?_
    refine x_norm ?_
    refine c_cond (t := true) hE rfl ?_
    refine c_reg R74_3_l ?_
    refine q0 p74_3_0 hE (st_assign rfl) ?_; clear hE a; intro a hE
    refine p_nil (x_norm (wp_ret (x_ret ?_)))
    refine ret_one (v := Value.int .i64 0) rfl hE (.tmp rfl .nil) ?_
    exact .inl ⟨by rfl, rfl, B_gh, K_0⟩
  have dr1_3 : ∀ (g1_13 : Nat) (W : World) (a : Act), En 57 a [(0, Value.pointer (some ⟨gh, 0, none⟩)), (2, Value.int .i64 0), (3, Value.pointer (some ⟨g1_13, 0, none⟩)), (5, Value.tuple #[Value.agg #[Value.int .i64 ((g tg).1), Value.int .i64 (v tg), Value.int .i64 ((g tg).2.1), Value.int .i64 ((g tg).2.2)], Value.int .i64 0]), (6, Value.pointer (some ⟨gh, 0, none⟩)), (7, Value.pointer (some ⟨gh, 0, none⟩)), (8, Value.pointer (some ⟨gh, 73, none⟩)), (9, Value.pointer (some ⟨gh, 76, none⟩)), (10, RV), (11, Value.pointer (some ⟨gh, 0, none⟩)), (12, Value.pointer (some ⟨gh, 0, none⟩)), (13, Value.pointer (some ⟨gh, 77, none⟩)), (14, Value.int .i64 tg), (15, Value.tuple #[Value.agg #[Value.int .i64 ((g tg).1), Value.int .i64 (v tg), Value.int .i64 ((g tg).2.1), Value.int .i64 ((g tg).2.2)], Value.int .i64 0]), (16, Value.agg #[Value.int .i64 ((g tg).1), Value.int .i64 (v tg), Value.int .i64 ((g tg).2.1), Value.int .i64 ((g tg).2.2)]), (17, Value.int .i64 0)] → W.heap[gh]? = some (.cells (HA cl fw ln nx hp sa da true mv dn wr fa ins rk num T l.length cT nd pf rt RV tg came own least wg).toArray 96 (0, 0)) → W.heap[g1_13]? = some (.cells #[Value.int .i64 0, Value.int .i64 0, Value.int .i64 0, Value.int .i64 0] 185 (0, 0)) → g1_13 ≠ gh → w.heap.size ≤ g1_13 → Kp w W (fun k => k = gh) → wpAnyH Try.prog .any (regOf Try.f74 1) QQ (fun W => W.heap[gh]? = some (.cells (HA cl fw ln nx hp sa da true mv dn wr fa ins rk num T l.length cT nd pf rt RV tg came own least wg).toArray 96 (0, 0)) ∧ True) 2 #[κ, κ, κ, κ, κ, κ, κ, κ, κ, κ, κ, κ, κ, κ, ι, ι] a W := by
   intro g1_13 w16 a hE B_gh B_g1_13 n_g1_13_gh z_0_g1_13 K_0
   refine d_all (rs := [14]) (by kernel_rfl) rfl ?_
   refine all_cons (d_lit (listed' := #[κ, κ, κ, κ, κ, κ, κ, κ, κ, κ, κ, κ, κ, κ, κ, ι]) rfl ?_) ?_
   ·
    refine (s_store (off := 0) (k := 4) (cs' := #[Value.int .i64 ((g tg).1), Value.int .i64 (v tg), Value.int .i64 ((g tg).2.1), Value.int .i64 ((g tg).2.2)]) p74_1_14 hE wn_none tS185 rfl rfl rfl rfl B_g1_13 (Nat.le_of_ble_eq_true rfl) rfl ?_)
    intro w17 B_g1_13' hk
    replace B_gh := kp_blk B_gh hk (Ne.symm n_g1_13_gh)
    replace K_0 := K_0.then_ hk (fun k h => by rw [show k = g1_13 from h]; exact Or.inr z_0_g1_13)
    replace B_g1_13 := B_g1_13'
    clear hk
    refine ⟨⟨B_gh, trivial⟩, ?_⟩
    refine Rv.dq (listed' := #[κ, κ, κ, κ, κ, κ, κ, κ, κ, κ, κ, κ, κ, κ, κ, κ]) (v := Value.int .i64 0) p74_1_15 ns74_1 hE wn_none ⟨B_gh, trivial⟩ (fun W hS => (st_assign rfl)) ?_ (fun c a w h => hQ c a _ _ w h); clear hE a; intro a hE
    exact dr1_4 g1_13 _ a (En.sub hE ⟨rfl, rfl, rfl, rfl, rfl, rfl, rfl, rfl, rfl, rfl, rfl, rfl, rfl, rfl, rfl, rfl, rfl, trivial⟩) B_gh B_g1_13 n_g1_13_gh z_0_g1_13 K_0
   exact all_nil
  have dr1_2 : ∀ (W : World) (a : Act), En 57 a [(0, Value.pointer (some ⟨gh, 0, none⟩)), (2, Value.int .i64 0), (5, Value.tuple #[Value.agg #[Value.int .i64 ((g tg).1), Value.int .i64 (v tg), Value.int .i64 ((g tg).2.1), Value.int .i64 ((g tg).2.2)], Value.int .i64 0]), (6, Value.pointer (some ⟨gh, 0, none⟩)), (7, Value.pointer (some ⟨gh, 0, none⟩)), (8, Value.pointer (some ⟨gh, 73, none⟩)), (9, Value.pointer (some ⟨gh, 76, none⟩)), (10, RV), (11, Value.pointer (some ⟨gh, 0, none⟩)), (12, Value.pointer (some ⟨gh, 0, none⟩)), (13, Value.pointer (some ⟨gh, 77, none⟩)), (14, Value.int .i64 tg), (15, Value.tuple #[Value.agg #[Value.int .i64 ((g tg).1), Value.int .i64 (v tg), Value.int .i64 ((g tg).2.1), Value.int .i64 ((g tg).2.2)], Value.int .i64 0]), (16, Value.agg #[Value.int .i64 ((g tg).1), Value.int .i64 (v tg), Value.int .i64 ((g tg).2.1), Value.int .i64 ((g tg).2.2)]), (17, Value.int .i64 0)] → W.heap[gh]? = some (.cells (HA cl fw ln nx hp sa da true mv dn wr fa ins rk num T l.length cT nd pf rt RV tg came own least wg).toArray 96 (0, 0)) → Kp w W (fun k => k = gh) → wpAnyH Try.prog .any (regOf Try.f74 1) QQ (fun W => W.heap[gh]? = some (.cells (HA cl fw ln nx hp sa da true mv dn wr fa ins rk num T l.length cT nd pf rt RV tg came own least wg).toArray 96 (0, 0)) ∧ True) 3 #[κ, κ, κ, κ, κ, κ, κ, κ, κ, κ, κ, κ, κ, ι, ι, ι] a W := by
   intro w18 a hE B_gh K_0
   refine d_all (rs := [13]) (by kernel_rfl) rfl ?_
   refine all_cons (d_lit (listed' := #[κ, κ, κ, κ, κ, κ, κ, κ, κ, κ, κ, κ, κ, κ, ι, ι]) rfl ?_) ?_
   ·
    refine (s_alloc p74_1_13 hE wn_none rfl tZ185 ?_)
    clear hE a; intro g1_13 w19 z20 B_g1_13 hk a hE
    replace B_g1_13 : w19.heap[g1_13]? = some (.cells #[Value.int .i64 0, Value.int .i64 0, Value.int .i64 0, Value.int .i64 0] 185 (0, 0)) := B_g1_13
    have n_gh_g1_13 : gh ≠ g1_13 := ne_new B_gh z20
    have z_0_g1_13 := Nat.le_trans K_0.kept.1 z20
    replace B_gh := kp_blk B_gh hk (fun h => h)
    replace K_0 := K_0.then_ hk (fun _ h => h.elim)
    clear hk
    refine ⟨⟨B_gh, trivial⟩, ?_⟩
    have n_g1_13_gh := Ne.symm n_gh_g1_13
    exact dr1_3 g1_13 _ a (En.sub hE ⟨rfl, rfl, rfl, rfl, rfl, rfl, rfl, rfl, rfl, rfl, rfl, rfl, rfl, rfl, rfl, rfl, trivial⟩) B_gh B_g1_13 n_g1_13_gh z_0_g1_13 K_0
   exact all_nil
  have dr1_1 : ∀ (g1_13 : Nat) (W : World) (a : Act), En 57 a [(0, Value.pointer (some ⟨gh, 0, none⟩)), (2, Value.int .i64 0), (3, Value.pointer (some ⟨g1_13, 0, none⟩)), (6, Value.pointer (some ⟨gh, 0, none⟩)), (7, Value.pointer (some ⟨gh, 0, none⟩)), (8, Value.pointer (some ⟨gh, 73, none⟩)), (9, Value.pointer (some ⟨gh, 76, none⟩)), (10, RV), (11, Value.pointer (some ⟨gh, 0, none⟩)), (12, Value.pointer (some ⟨gh, 0, none⟩)), (13, Value.pointer (some ⟨gh, 77, none⟩)), (14, Value.int .i64 tg)] → W.heap[gh]? = some (.cells (HA cl fw ln nx hp sa da true mv dn wr fa ins rk num T l.length cT nd pf rt RV tg came own least wg).toArray 96 (0, 0)) → W.heap[g1_13]? = some (.cells #[Value.int .i64 0, Value.int .i64 0, Value.int .i64 0, Value.int .i64 0] 185 (0, 0)) → g1_13 ≠ gh → w.heap.size ≤ g1_13 → Kp w W (fun k => k = gh) → wpAnyH Try.prog .any (regOf Try.f74 1) QQ (fun W => W.heap[gh]? = some (.cells (HA cl fw ln nx hp sa da true mv dn wr fa ins rk num T l.length cT nd pf rt RV tg came own least wg).toArray 96 (0, 0)) ∧ True) 6 #[κ, κ, κ, κ, κ, κ, κ, κ, κ, ι, ι, ι, ι, κ, ι, ι] a W := by
   intro g1_13 w21 a hE B_gh B_g1_13 n_g1_13_gh z_0_g1_13 K_0
   refine d_all (rs := [9]) (by kernel_rfl) rfl ?_
   refine all_cons (d_lit (listed' := #[κ, κ, κ, κ, κ, κ, κ, κ, κ, κ, ι, ι, ι, κ, ι, ι]) rfl ?_) ?_
   ·
    refine (s_call (xs := [Operand.tmp 10, Operand.tmp 14]) (args := [RV, Value.int .i64 tg]) p74_1_9 hE wn_none rfl rfl Try.func111 cl111 (hT.yes tg hHAS _ K_0) ?_)
    rintro e w22 ⟨rfl, hk⟩
    replace B_gh := kp_blk B_gh hk (fun h => h)
    replace B_g1_13 := kp_blk B_g1_13 hk (fun h => h)
    replace K_0 := K_0.then_ hk (fun _ h => h.elim)
    refine ⟨_, rfl, ?_⟩; clear hE a; intro a hE
    refine ⟨⟨B_gh, trivial⟩, ?_⟩
    refine Rv.dq (listed' := #[κ, κ, κ, κ, κ, κ, κ, κ, κ, κ, κ, ι, ι, κ, ι, ι]) (v := Value.tuple #[Value.agg #[Value.int .i64 ((g tg).1), Value.int .i64 (v tg), Value.int .i64 ((g tg).2.1), Value.int .i64 ((g tg).2.2)], Value.int .i64 0]) p74_1_10 ns74_1 hE wn_none ⟨B_gh, trivial⟩ (fun W hS => (st_move rfl)) ?_ (fun c a w h => hQ c a _ _ w h); clear hE a; intro a hE
    refine Rv.dq (listed' := #[κ, κ, κ, κ, κ, κ, κ, κ, κ, κ, κ, κ, ι, κ, ι, ι]) (v := Value.agg #[Value.int .i64 ((g tg).1), Value.int .i64 (v tg), Value.int .i64 ((g tg).2.1), Value.int .i64 ((g tg).2.2)]) p74_1_11 ns74_1 hE wn_none ⟨B_gh, trivial⟩ (fun W hS => (st_extract rfl rfl)) ?_ (fun c a w h => hQ c a _ _ w h); clear hE a; intro a hE
    refine Rv.dq (listed' := #[κ, κ, κ, κ, κ, κ, κ, κ, κ, κ, κ, κ, κ, κ, ι, ι]) (v := Value.int .i64 0) p74_1_12 ns74_1 hE wn_none ⟨B_gh, trivial⟩ (fun W hS => (st_extract rfl rfl)) ?_ (fun c a w h => hQ c a _ _ w h); clear hE a; intro a hE
    exact dr1_3 g1_13 _ a (En.sub hE ⟨rfl, rfl, rfl, rfl, rfl, rfl, rfl, rfl, rfl, rfl, rfl, rfl, rfl, rfl, rfl, rfl, trivial⟩) B_gh B_g1_13 n_g1_13_gh z_0_g1_13 K_0
   exact all_nil
  have dr1_0 : ∀ (W : World) (a : Act), En 57 a [(0, Value.pointer (some ⟨gh, 0, none⟩)), (2, Value.int .i64 0), (6, Value.pointer (some ⟨gh, 0, none⟩)), (7, Value.pointer (some ⟨gh, 0, none⟩)), (8, Value.pointer (some ⟨gh, 73, none⟩)), (9, Value.pointer (some ⟨gh, 76, none⟩)), (10, RV), (11, Value.pointer (some ⟨gh, 0, none⟩)), (12, Value.pointer (some ⟨gh, 0, none⟩)), (13, Value.pointer (some ⟨gh, 77, none⟩)), (14, Value.int .i64 tg)] → W.heap[gh]? = some (.cells (HA cl fw ln nx hp sa da true mv dn wr fa ins rk num T l.length cT nd pf rt RV tg came own least wg).toArray 96 (0, 0)) → Kp w W (fun k => k = gh) → wpAnyH Try.prog .any (regOf Try.f74 1) QQ (fun W => W.heap[gh]? = some (.cells (HA cl fw ln nx hp sa da true mv dn wr fa ins rk num T l.length cT nd pf rt RV tg came own least wg).toArray 96 (0, 0)) ∧ True) 7 #[κ, κ, κ, κ, κ, κ, κ, κ, κ, ι, ι, ι, ι, ι, ι, ι] a W := by
   intro w23 a hE B_gh K_0
   refine d_all (rs := [9, 13]) (by kernel_rfl) rfl ?_
   refine all_cons (d_lit (listed' := #[κ, κ, κ, κ, κ, κ, κ, κ, κ, κ, ι, ι, ι, ι, ι, ι]) rfl ?_) ?_
   ·
    refine (s_call (xs := [Operand.tmp 10, Operand.tmp 14]) (args := [RV, Value.int .i64 tg]) p74_1_9 hE wn_none rfl rfl Try.func111 cl111 (hT.yes tg hHAS _ K_0) ?_)
    rintro e w24 ⟨rfl, hk⟩
    replace B_gh := kp_blk B_gh hk (fun h => h)
    replace K_0 := K_0.then_ hk (fun _ h => h.elim)
    refine ⟨_, rfl, ?_⟩; clear hE a; intro a hE
    refine ⟨⟨B_gh, trivial⟩, ?_⟩
    refine Rv.dq (listed' := #[κ, κ, κ, κ, κ, κ, κ, κ, κ, κ, κ, ι, ι, ι, ι, ι]) (v := Value.tuple #[Value.agg #[Value.int .i64 ((g tg).1), Value.int .i64 (v tg), Value.int .i64 ((g tg).2.1), Value.int .i64 ((g tg).2.2)], Value.int .i64 0]) p74_1_10 ns74_1 hE wn_none ⟨B_gh, trivial⟩ (fun W hS => (st_move rfl)) ?_ (fun c a w h => hQ c a _ _ w h); clear hE a; intro a hE
    refine Rv.dq (listed' := #[κ, κ, κ, κ, κ, κ, κ, κ, κ, κ, κ, κ, ι, ι, ι, ι]) (v := Value.agg #[Value.int .i64 ((g tg).1), Value.int .i64 (v tg), Value.int .i64 ((g tg).2.1), Value.int .i64 ((g tg).2.2)]) p74_1_11 ns74_1 hE wn_none ⟨B_gh, trivial⟩ (fun W hS => (st_extract rfl rfl)) ?_ (fun c a w h => hQ c a _ _ w h); clear hE a; intro a hE
    refine Rv.dq (listed' := #[κ, κ, κ, κ, κ, κ, κ, κ, κ, κ, κ, κ, κ, ι, ι, ι]) (v := Value.int .i64 0) p74_1_12 ns74_1 hE wn_none ⟨B_gh, trivial⟩ (fun W hS => (st_extract rfl rfl)) ?_ (fun c a w h => hQ c a _ _ w h); clear hE a; intro a hE
    exact dr1_2 _ a (En.sub hE ⟨rfl, rfl, rfl, rfl, rfl, rfl, rfl, rfl, rfl, rfl, rfl, rfl, rfl, rfl, rfl, trivial⟩) B_gh K_0
   refine all_cons (d_lit (listed' := #[κ, κ, κ, κ, κ, κ, κ, κ, κ, ι, ι, ι, ι, κ, ι, ι]) rfl ?_) ?_
   ·
    refine (s_alloc p74_1_13 hE wn_none rfl tZ185 ?_)
    clear hE a; intro g1_13 w25 z26 B_g1_13 hk a hE
    replace B_g1_13 : w25.heap[g1_13]? = some (.cells #[Value.int .i64 0, Value.int .i64 0, Value.int .i64 0, Value.int .i64 0] 185 (0, 0)) := B_g1_13
    have n_gh_g1_13 : gh ≠ g1_13 := ne_new B_gh z26
    have z_0_g1_13 := Nat.le_trans K_0.kept.1 z26
    replace B_gh := kp_blk B_gh hk (fun h => h)
    replace K_0 := K_0.then_ hk (fun _ h => h.elim)
    clear hk
    refine ⟨⟨B_gh, trivial⟩, ?_⟩
    have n_g1_13_gh := Ne.symm n_gh_g1_13
    exact dr1_1 g1_13 _ a (En.sub hE ⟨rfl, rfl, rfl, rfl, rfl, rfl, rfl, rfl, rfl, rfl, rfl, rfl, trivial⟩) B_gh B_g1_13 n_g1_13_gh z_0_g1_13 K_0
   exact all_nil
  intro w1 hh hk
  replace B_gh := kp_blk B_gh hk (fun h => h)
  replace K_0 := K_0.then_ hk (fun _ h => h.elim)
  clear hh hk
  refine Rv.dq (listed' := #[κ, ι, ι, ι, ι, ι, ι, ι, ι, ι, ι, ι, ι, ι, ι, ι]) (v := Value.pointer (some ⟨gh, 0, none⟩)) p74_1_0 ns74_1 hE wn_none ⟨B_gh, trivial⟩ (fun W hS => (st_move rfl)) ?_ (fun c a w h => hQ c a _ _ w h); clear hE a; intro a hE
  refine Rv.dq (listed' := #[κ, κ, ι, ι, ι, ι, ι, ι, ι, ι, ι, ι, ι, ι, ι, ι]) (v := Value.pointer (some ⟨gh, 0, none⟩)) p74_1_1 ns74_1 hE wn_none ⟨B_gh, trivial⟩ (fun W hS => (st_nil rfl)) ?_ (fun c a w h => hQ c a _ _ w h); clear hE a; intro a hE
  refine Rv.dq (listed' := #[κ, κ, κ, ι, ι, ι, ι, ι, ι, ι, ι, ι, ι, ι, ι, ι]) (v := Value.pointer (some ⟨gh, 73, none⟩)) p74_1_2 ns74_1 hE wn_none ⟨B_gh, trivial⟩ (fun W hS => (st_fieldAddr Try.underlying96 rfl tS41 rfl rfl)) ?_ (fun c a w h => hQ c a _ _ w h); clear hE a; intro a hE
  refine Rv.dq (listed' := #[κ, κ, κ, κ, ι, ι, ι, ι, ι, ι, ι, ι, ι, ι, ι, ι]) (v := Value.pointer (some ⟨gh, 76, none⟩)) p74_1_3 ns74_1 hE wn_none ⟨B_gh, trivial⟩ (fun W hS => (st_fieldAddr Try.underlying41 rfl tS39 rfl rfl)) ?_ (fun c a w h => hQ c a _ _ w h); clear hE a; intro a hE
  refine Rv.dq (listed' := #[κ, κ, κ, κ, κ, ι, ι, ι, ι, ι, ι, ι, ι, ι, ι, ι]) (v := RV) p74_1_4 ns74_1 hE wn_none ⟨B_gh, trivial⟩ (fun W hS => (st_load1 tA39 rfl ((blk_cell hS.1 76).trans rfl))) ?_ (fun c a w h => hQ c a _ _ w h); clear hE a; intro a hE
  refine Rv.dq (listed' := #[κ, κ, κ, κ, κ, κ, ι, ι, ι, ι, ι, ι, ι, ι, ι, ι]) (v := Value.pointer (some ⟨gh, 0, none⟩)) p74_1_5 ns74_1 hE wn_none ⟨B_gh, trivial⟩ (fun W hS => (st_move rfl)) ?_ (fun c a w h => hQ c a _ _ w h); clear hE a; intro a hE
  refine Rv.dq (listed' := #[κ, κ, κ, κ, κ, κ, κ, ι, ι, ι, ι, ι, ι, ι, ι, ι]) (v := Value.pointer (some ⟨gh, 0, none⟩)) p74_1_6 ns74_1 hE wn_none ⟨B_gh, trivial⟩ (fun W hS => (st_nil rfl)) ?_ (fun c a w h => hQ c a _ _ w h); clear hE a; intro a hE
  refine Rv.dq (listed' := #[κ, κ, κ, κ, κ, κ, κ, κ, ι, ι, ι, ι, ι, ι, ι, ι]) (v := Value.pointer (some ⟨gh, 77, none⟩)) p74_1_7 ns74_1 hE wn_none ⟨B_gh, trivial⟩ (fun W hS => (st_fieldAddr Try.underlying96 rfl tS3 rfl rfl)) ?_ (fun c a w h => hQ c a _ _ w h); clear hE a; intro a hE
  refine Rv.dq (listed' := #[κ, κ, κ, κ, κ, κ, κ, κ, κ, ι, ι, ι, ι, ι, ι, ι]) (v := Value.int .i64 tg) p74_1_8 ns74_1 hE wn_none ⟨B_gh, trivial⟩ (fun W hS => (st_load1 tA3 rfl ((blk_cell hS.1 77).trans rfl))) ?_ (fun c a w h => hQ c a _ _ w h); clear hE a; intro a hE
  exact dr1_0 _ a (En.sub hE ⟨rfl, rfl, rfl, rfl, rfl, rfl, rfl, rfl, rfl, rfl, rfl, trivial⟩) B_gh K_0
 ·
  refine c_drawMS (S := fun W => W.heap[gh]? = some (.cells (HA cl fw ln nx hp sa da true mv dn wr fa ins rk num T l.length cT nd pf rt RV tg came own least wg).toArray 96 (0, 0)) ∧ True) rfl rfl (listed := #[ι, ι, ι, ι, ι, ι, ι, ι, ι, ι, ι, ι, ι, ι, ι, ι]) rfl pan_body (fun QQ hQ hend => ?_)
  have dr1_4 : ∀ (g1_13 : Nat) (W : World) (a : Act), En 57 a [(0, Value.pointer (some ⟨gh, 0, none⟩)), (2, Value.int .i64 0), (3, Value.pointer (some ⟨g1_13, 0, none⟩)), (4, Value.int .i64 er), (5, Value.tuple #[Value.agg #[Value.int .i64 0, Value.int .i64 0, Value.int .i64 0, Value.int .i64 0], Value.int .i64 er]), (6, Value.pointer (some ⟨gh, 0, none⟩)), (7, Value.pointer (some ⟨gh, 0, none⟩)), (8, Value.pointer (some ⟨gh, 73, none⟩)), (9, Value.pointer (some ⟨gh, 76, none⟩)), (10, RV), (11, Value.pointer (some ⟨gh, 0, none⟩)), (12, Value.pointer (some ⟨gh, 0, none⟩)), (13, Value.pointer (some ⟨gh, 77, none⟩)), (14, Value.int .i64 tg), (15, Value.tuple #[Value.agg #[Value.int .i64 0, Value.int .i64 0, Value.int .i64 0, Value.int .i64 0], Value.int .i64 er]), (16, Value.agg #[Value.int .i64 0, Value.int .i64 0, Value.int .i64 0, Value.int .i64 0]), (17, Value.int .i64 er)] → W.heap[gh]? = some (.cells (HA cl fw ln nx hp sa da true mv dn wr fa ins rk num T l.length cT nd pf rt RV tg came own least wg).toArray 96 (0, 0)) → W.heap[g1_13]? = some (.cells #[Value.int .i64 0, Value.int .i64 0, Value.int .i64 0, Value.int .i64 0] 185 (0, 0)) → g1_13 ≠ gh → w.heap.size ≤ g1_13 → Kp w W (fun k => k = gh) → wpAnyH Try.prog .any (regOf Try.f74 1) QQ (fun W => W.heap[gh]? = some (.cells (HA cl fw ln nx hp sa da true mv dn wr fa ins rk num T l.length cT nd pf rt RV tg came own least wg).toArray 96 (0, 0)) ∧ True) 0 #[κ, κ, κ, κ, κ, κ, κ, κ, κ, κ, κ, κ, κ, κ, κ, κ] a W := by
   intro g1_13 w35 a hE B_gh B_g1_13 n_g1_13_gh z_0_g1_13 K_0
   refine d_end (by kernel_rfl) (hend _ _ ?_)
   refine wp_seq ?_
   rcases Decidable.em (fa = true) with hFA | hFA
   ·
    have hfa9 : fa = true := by simpa using hFA
    subst hfa9
    refine c_drawS (S := fun W => W.heap[gh]? = some (.cells (HA cl fw ln nx hp sa da true mv dn wr true ins rk num T l.length cT nd pf rt RV tg came own least wg).toArray 96 (0, 0)) ∧ W.heap[g1_13]? = some (.cells #[Value.int .i64 0, Value.int .i64 0, Value.int .i64 0, Value.int .i64 0] 185 (0, 0)) ∧ True) rfl rfl (listed := #[ι, ι, ι, ι, ι, ι, ι, ι, ι, ι, ι, ι, ι, ι, ι, ι, ι, ι, ι, ι, ι, ι, ι, ι, ι, ι, ι]) rfl ?_
    intro w36 hh hk
    replace B_gh := kp_blk B_gh hk (fun h => h)
    replace B_g1_13 := kp_blk B_g1_13 hk (fun h => h)
    replace K_0 := K_0.then_ hk (fun _ h => h.elim)
    clear hh hk
    refine Rv.dm ns74_2 hE ⟨B_gh, B_g1_13, trivial⟩ (Rv.dc p74_2_0 (fun W hS => (st_move rfl)) rfl (Rv.dc p74_2_1 (fun W hS => (st_nil rfl)) rfl (Rv.dc (v := Value.pointer (some ⟨gh, 78, none⟩)) p74_2_2 (fun W hS => (st_fieldAddr Try.underlying96 rfl tS3 rfl rfl)) rfl (Rv.dc (v := Value.int .i64 came) p74_2_3 (fun W hS => (st_load1 tA3 rfl ((blk_cell hS.1 78).trans rfl))) rfl (Rv.dc (v := Value.bool false) p74_2_4 (fun W hS => (st_eql (b := false) rfl rfl (decide_eq_false h0))) rfl (Rv.dc p74_2_5 (fun W hS => (st_move rfl)) rfl (Rv.dg p74_2_6 (wn_some g74_2_5 rfl rfl) (fun W hS => (st_move rfl)) rfl (Rv.dg p74_2_7 (wn_some g74_2_5 rfl rfl) (fun W hS => (st_nil rfl)) rfl (Rv.dg (v := Value.pointer (some ⟨gh, 0, none⟩)) p74_2_8 (wn_some g74_2_5 rfl rfl) (fun W hS => (st_fieldAddr Try.underlying96 rfl tS35 rfl rfl)) rfl (Rv.dg (v := Value.pointer (some ⟨gh, 66, none⟩)) p74_2_9 (wn_some g74_2_5 rfl rfl) (fun W hS => (st_fieldAddr Try.underlying35 rfl tS32 rfl rfl)) rfl (Rv.dg (v := Value.pointer (some ⟨gh, 68, none⟩)) p74_2_10 (wn_some g74_2_5 rfl rfl) (fun W hS => (st_fieldAddr Try.underlying32 rfl tS4 rfl rfl)) rfl (Rv.dg (v := Value.bool true) p74_2_11 (wn_some g74_2_5 rfl rfl) (fun W hS => (st_load1 tA4 rfl ((blk_cell hS.1 68).trans rfl))) rfl (Rv.dg (v := Value.bool false) p74_2_12 (wn_some g74_2_5 rfl rfl) (fun W hS => (st_not rfl rfl)) rfl (Rv.dc p74_2_13 (fun W hS => (st_pick rfl rfl)) rfl (Rv.dc p74_2_14 (fun W hS => (st_move rfl)) rfl (Rv.dg p74_2_15 (wn_some g74_2_14 rfl rfl) (fun W hS => (st_move rfl)) rfl (Rv.dg (v := Value.bool true) p74_2_16 (wn_some g74_2_14 rfl rfl) (fun W hS => (st_neq (b := true) rfl rfl (by rw [decide_eq_false hT.er]; rfl))) rfl (Rv.dc p74_2_17 (fun W hS => (st_pick rfl rfl)) rfl (Rv.dc p74_2_18 (fun W hS => (st_move rfl)) rfl (Rv.ds p74_2_19 (wn_some g74_2_18 rfl rfl) (Rv.ds p74_2_20 (wn_some g74_2_18 rfl rfl) (Rv.ds p74_2_21 (wn_some g74_2_18 rfl rfl) (Rv.ds p74_2_22 (wn_some g74_2_18 rfl rfl) (Rv.ds p74_2_23 (wn_some g74_2_18 rfl rfl) (Rv.ds p74_2_24 (wn_some g74_2_18 rfl rfl) (Rv.ds p74_2_25 (wn_some g74_2_18 rfl rfl) (Rv.dc p74_2_26 (fun W hS => (st_pick rfl rfl)) rfl Rv.dn))))))))))))))))))))))))))) ?_; clear hE a; intro a hE
    refine d_end (by kernel_rfl) ?_
    refine x_norm ?_
    refine c_cond (t := true) hE rfl ?_
    refine c_reg R74_3_l ?_
    refine q0 p74_3_0 hE (st_assign rfl) ?_; clear hE a; intro a hE
    refine p_nil (x_norm (wp_ret (x_ret ?_)))
    refine ret_one (v := Value.int .i64 0) rfl hE (.tmp rfl .nil) ?_
    exact .inl ⟨by rw [decide_eq_false (by omega)]; rfl, rfl, B_gh, K_0⟩
   ·
    have hfa9 : fa = false := by simpa using hFA
    subst hfa9
    refine c_drawS (S := fun W => W.heap[gh]? = some (.cells (HA cl fw ln nx hp sa da true mv dn wr false ins rk num T l.length cT nd pf rt RV tg came own least wg).toArray 96 (0, 0)) ∧ W.heap[g1_13]? = some (.cells #[Value.int .i64 0, Value.int .i64 0, Value.int .i64 0, Value.int .i64 0] 185 (0, 0)) ∧ True) rfl rfl (listed := #[ι, ι, ι, ι, ι, ι, ι, ι, ι, ι, ι, ι, ι, ι, ι, ι, ι, ι, ι, ι, ι, ι, ι, ι, ι, ι, ι]) rfl ?_
    intro w37 hh hk
    replace B_gh := kp_blk B_gh hk (fun h => h)
    replace B_g1_13 := kp_blk B_g1_13 hk (fun h => h)
    replace K_0 := K_0.then_ hk (fun _ h => h.elim)
    clear hh hk
    refine Rv.dm ns74_2 hE ⟨B_gh, B_g1_13, trivial⟩ (Rv.dc p74_2_0 (fun W hS => (st_move rfl)) rfl (Rv.dc p74_2_1 (fun W hS => (st_nil rfl)) rfl (Rv.dc (v := Value.pointer (some ⟨gh, 78, none⟩)) p74_2_2 (fun W hS => (st_fieldAddr Try.underlying96 rfl tS3 rfl rfl)) rfl (Rv.dc (v := Value.int .i64 came) p74_2_3 (fun W hS => (st_load1 tA3 rfl ((blk_cell hS.1 78).trans rfl))) rfl (Rv.dc (v := Value.bool false) p74_2_4 (fun W hS => (st_eql (b := false) rfl rfl (decide_eq_false h0))) rfl (Rv.dc p74_2_5 (fun W hS => (st_move rfl)) rfl (Rv.dg p74_2_6 (wn_some g74_2_5 rfl rfl) (fun W hS => (st_move rfl)) rfl (Rv.dg p74_2_7 (wn_some g74_2_5 rfl rfl) (fun W hS => (st_nil rfl)) rfl (Rv.dg (v := Value.pointer (some ⟨gh, 0, none⟩)) p74_2_8 (wn_some g74_2_5 rfl rfl) (fun W hS => (st_fieldAddr Try.underlying96 rfl tS35 rfl rfl)) rfl (Rv.dg (v := Value.pointer (some ⟨gh, 66, none⟩)) p74_2_9 (wn_some g74_2_5 rfl rfl) (fun W hS => (st_fieldAddr Try.underlying35 rfl tS32 rfl rfl)) rfl (Rv.dg (v := Value.pointer (some ⟨gh, 68, none⟩)) p74_2_10 (wn_some g74_2_5 rfl rfl) (fun W hS => (st_fieldAddr Try.underlying32 rfl tS4 rfl rfl)) rfl (Rv.dg (v := Value.bool false) p74_2_11 (wn_some g74_2_5 rfl rfl) (fun W hS => (st_load1 tA4 rfl ((blk_cell hS.1 68).trans rfl))) rfl (Rv.dg (v := Value.bool true) p74_2_12 (wn_some g74_2_5 rfl rfl) (fun W hS => (st_not rfl rfl)) rfl (Rv.dc p74_2_13 (fun W hS => (st_pick rfl rfl)) rfl (Rv.dc p74_2_14 (fun W hS => (st_move rfl)) rfl (Rv.ds p74_2_15 (wn_some g74_2_14 rfl rfl) (Rv.ds p74_2_16 (wn_some g74_2_14 rfl rfl) (Rv.dc p74_2_17 (fun W hS => (st_pick rfl rfl)) rfl (Rv.dc p74_2_18 (fun W hS => (st_move rfl)) rfl (Rv.ds p74_2_19 (wn_some g74_2_18 rfl rfl) (Rv.ds p74_2_20 (wn_some g74_2_18 rfl rfl) (Rv.ds p74_2_21 (wn_some g74_2_18 rfl rfl) (Rv.ds p74_2_22 (wn_some g74_2_18 rfl rfl) (Rv.ds p74_2_23 (wn_some g74_2_18 rfl rfl) (Rv.ds p74_2_24 (wn_some g74_2_18 rfl rfl) (Rv.ds p74_2_25 (wn_some g74_2_18 rfl rfl) (Rv.dc p74_2_26 (fun W hS => (st_pick rfl rfl)) rfl Rv.dn))))))))))))))))))))))))))) ?_; clear hE a; intro a hE
    refine d_end (by kernel_rfl) ?_
    refine x_norm ?_
    refine c_cond (t := true) hE rfl ?_
    refine c_reg R74_3_l ?_
    refine q0 p74_3_0 hE (st_assign rfl) ?_; clear hE a; intro a hE
    refine p_nil (x_norm (wp_ret (x_ret ?_)))
    refine ret_one (v := Value.int .i64 0) rfl hE (.tmp rfl .nil) ?_
    exact .inl ⟨by rfl, rfl, B_gh, K_0⟩
  have dr1_3 : ∀ (g1_13 : Nat) (W : World) (a : Act), En 57 a [(0, Value.pointer (some ⟨gh, 0, none⟩)), (2, Value.int .i64 0), (3, Value.pointer (some ⟨g1_13, 0, none⟩)), (5, Value.tuple #[Value.agg #[Value.int .i64 0, Value.int .i64 0, Value.int .i64 0, Value.int .i64 0], Value.int .i64 er]), (6, Value.pointer (some ⟨gh, 0, none⟩)), (7, Value.pointer (some ⟨gh, 0, none⟩)), (8, Value.pointer (some ⟨gh, 73, none⟩)), (9, Value.pointer (some ⟨gh, 76, none⟩)), (10, RV), (11, Value.pointer (some ⟨gh, 0, none⟩)), (12, Value.pointer (some ⟨gh, 0, none⟩)), (13, Value.pointer (some ⟨gh, 77, none⟩)), (14, Value.int .i64 tg), (15, Value.tuple #[Value.agg #[Value.int .i64 0, Value.int .i64 0, Value.int .i64 0, Value.int .i64 0], Value.int .i64 er]), (16, Value.agg #[Value.int .i64 0, Value.int .i64 0, Value.int .i64 0, Value.int .i64 0]), (17, Value.int .i64 er)] → W.heap[gh]? = some (.cells (HA cl fw ln nx hp sa da true mv dn wr fa ins rk num T l.length cT nd pf rt RV tg came own least wg).toArray 96 (0, 0)) → W.heap[g1_13]? = some (.cells #[Value.int .i64 0, Value.int .i64 0, Value.int .i64 0, Value.int .i64 0] 185 (0, 0)) → g1_13 ≠ gh → w.heap.size ≤ g1_13 → Kp w W (fun k => k = gh) → wpAnyH Try.prog .any (regOf Try.f74 1) QQ (fun W => W.heap[gh]? = some (.cells (HA cl fw ln nx hp sa da true mv dn wr fa ins rk num T l.length cT nd pf rt RV tg came own least wg).toArray 96 (0, 0)) ∧ True) 2 #[κ, κ, κ, κ, κ, κ, κ, κ, κ, κ, κ, κ, κ, κ, ι, ι] a W := by
   intro g1_13 w38 a hE B_gh B_g1_13 n_g1_13_gh z_0_g1_13 K_0
   refine d_all (rs := [14]) (by kernel_rfl) rfl ?_
   refine all_cons (d_lit (listed' := #[κ, κ, κ, κ, κ, κ, κ, κ, κ, κ, κ, κ, κ, κ, κ, ι]) rfl ?_) ?_
   ·
    refine (s_store (off := 0) (k := 4) (cs' := #[Value.int .i64 0, Value.int .i64 0, Value.int .i64 0, Value.int .i64 0]) p74_1_14 hE wn_none tS185 rfl rfl rfl rfl B_g1_13 (Nat.le_of_ble_eq_true rfl) rfl ?_)
    intro w39 B_g1_13' hk
    replace B_gh := kp_blk B_gh hk (Ne.symm n_g1_13_gh)
    replace K_0 := K_0.then_ hk (fun k h => by rw [show k = g1_13 from h]; exact Or.inr z_0_g1_13)
    replace B_g1_13 := B_g1_13'
    clear hk
    refine ⟨⟨B_gh, trivial⟩, ?_⟩
    refine Rv.dq (listed' := #[κ, κ, κ, κ, κ, κ, κ, κ, κ, κ, κ, κ, κ, κ, κ, κ]) (v := Value.int .i64 er) p74_1_15 ns74_1 hE wn_none ⟨B_gh, trivial⟩ (fun W hS => (st_assign rfl)) ?_ (fun c a w h => hQ c a _ _ w h); clear hE a; intro a hE
    exact dr1_4 g1_13 _ a (En.sub hE ⟨rfl, rfl, rfl, rfl, rfl, rfl, rfl, rfl, rfl, rfl, rfl, rfl, rfl, rfl, rfl, rfl, rfl, trivial⟩) B_gh B_g1_13 n_g1_13_gh z_0_g1_13 K_0
   exact all_nil
  have dr1_2 : ∀ (W : World) (a : Act), En 57 a [(0, Value.pointer (some ⟨gh, 0, none⟩)), (2, Value.int .i64 0), (5, Value.tuple #[Value.agg #[Value.int .i64 0, Value.int .i64 0, Value.int .i64 0, Value.int .i64 0], Value.int .i64 er]), (6, Value.pointer (some ⟨gh, 0, none⟩)), (7, Value.pointer (some ⟨gh, 0, none⟩)), (8, Value.pointer (some ⟨gh, 73, none⟩)), (9, Value.pointer (some ⟨gh, 76, none⟩)), (10, RV), (11, Value.pointer (some ⟨gh, 0, none⟩)), (12, Value.pointer (some ⟨gh, 0, none⟩)), (13, Value.pointer (some ⟨gh, 77, none⟩)), (14, Value.int .i64 tg), (15, Value.tuple #[Value.agg #[Value.int .i64 0, Value.int .i64 0, Value.int .i64 0, Value.int .i64 0], Value.int .i64 er]), (16, Value.agg #[Value.int .i64 0, Value.int .i64 0, Value.int .i64 0, Value.int .i64 0]), (17, Value.int .i64 er)] → W.heap[gh]? = some (.cells (HA cl fw ln nx hp sa da true mv dn wr fa ins rk num T l.length cT nd pf rt RV tg came own least wg).toArray 96 (0, 0)) → Kp w W (fun k => k = gh) → wpAnyH Try.prog .any (regOf Try.f74 1) QQ (fun W => W.heap[gh]? = some (.cells (HA cl fw ln nx hp sa da true mv dn wr fa ins rk num T l.length cT nd pf rt RV tg came own least wg).toArray 96 (0, 0)) ∧ True) 3 #[κ, κ, κ, κ, κ, κ, κ, κ, κ, κ, κ, κ, κ, ι, ι, ι] a W := by
   intro w40 a hE B_gh K_0
   refine d_all (rs := [13]) (by kernel_rfl) rfl ?_
   refine all_cons (d_lit (listed' := #[κ, κ, κ, κ, κ, κ, κ, κ, κ, κ, κ, κ, κ, κ, ι, ι]) rfl ?_) ?_
   ·
    refine (s_alloc p74_1_13 hE wn_none rfl tZ185 ?_)
    clear hE a; intro g1_13 w41 z42 B_g1_13 hk a hE
    replace B_g1_13 : w41.heap[g1_13]? = some (.cells #[Value.int .i64 0, Value.int .i64 0, Value.int .i64 0, Value.int .i64 0] 185 (0, 0)) := B_g1_13
    have n_gh_g1_13 : gh ≠ g1_13 := ne_new B_gh z42
    have z_0_g1_13 := Nat.le_trans K_0.kept.1 z42
    replace B_gh := kp_blk B_gh hk (fun h => h)
    replace K_0 := K_0.then_ hk (fun _ h => h.elim)
    clear hk
    refine ⟨⟨B_gh, trivial⟩, ?_⟩
    have n_g1_13_gh := Ne.symm n_gh_g1_13
    exact dr1_3 g1_13 _ a (En.sub hE ⟨rfl, rfl, rfl, rfl, rfl, rfl, rfl, rfl, rfl, rfl, rfl, rfl, rfl, rfl, rfl, rfl, trivial⟩) B_gh B_g1_13 n_g1_13_gh z_0_g1_13 K_0
   exact all_nil
  have dr1_1 : ∀ (g1_13 : Nat) (W : World) (a : Act), En 57 a [(0, Value.pointer (some ⟨gh, 0, none⟩)), (2, Value.int .i64 0), (3, Value.pointer (some ⟨g1_13, 0, none⟩)), (6, Value.pointer (some ⟨gh, 0, none⟩)), (7, Value.pointer (some ⟨gh, 0, none⟩)), (8, Value.pointer (some ⟨gh, 73, none⟩)), (9, Value.pointer (some ⟨gh, 76, none⟩)), (10, RV), (11, Value.pointer (some ⟨gh, 0, none⟩)), (12, Value.pointer (some ⟨gh, 0, none⟩)), (13, Value.pointer (some ⟨gh, 77, none⟩)), (14, Value.int .i64 tg)] → W.heap[gh]? = some (.cells (HA cl fw ln nx hp sa da true mv dn wr fa ins rk num T l.length cT nd pf rt RV tg came own least wg).toArray 96 (0, 0)) → W.heap[g1_13]? = some (.cells #[Value.int .i64 0, Value.int .i64 0, Value.int .i64 0, Value.int .i64 0] 185 (0, 0)) → g1_13 ≠ gh → w.heap.size ≤ g1_13 → Kp w W (fun k => k = gh) → wpAnyH Try.prog .any (regOf Try.f74 1) QQ (fun W => W.heap[gh]? = some (.cells (HA cl fw ln nx hp sa da true mv dn wr fa ins rk num T l.length cT nd pf rt RV tg came own least wg).toArray 96 (0, 0)) ∧ True) 6 #[κ, κ, κ, κ, κ, κ, κ, κ, κ, ι, ι, ι, ι, κ, ι, ι] a W := by
   intro g1_13 w43 a hE B_gh B_g1_13 n_g1_13_gh z_0_g1_13 K_0
   refine d_all (rs := [9]) (by kernel_rfl) rfl ?_
   refine all_cons (d_lit (listed' := #[κ, κ, κ, κ, κ, κ, κ, κ, κ, κ, ι, ι, ι, κ, ι, ι]) rfl ?_) ?_
   ·
    refine (s_call (xs := [Operand.tmp 10, Operand.tmp 14]) (args := [RV, Value.int .i64 tg]) p74_1_9 hE wn_none rfl rfl Try.func111 cl111 (hT.no tg hHAS _ K_0) ?_)
    rintro e w44 ⟨rfl, hk⟩
    replace B_gh := kp_blk B_gh hk (fun h => h)
    replace B_g1_13 := kp_blk B_g1_13 hk (fun h => h)
    replace K_0 := K_0.then_ hk (fun _ h => h.elim)
    refine ⟨_, rfl, ?_⟩; clear hE a; intro a hE
    refine ⟨⟨B_gh, trivial⟩, ?_⟩
    refine Rv.dq (listed' := #[κ, κ, κ, κ, κ, κ, κ, κ, κ, κ, κ, ι, ι, κ, ι, ι]) (v := Value.tuple #[Value.agg #[Value.int .i64 0, Value.int .i64 0, Value.int .i64 0, Value.int .i64 0], Value.int .i64 er]) p74_1_10 ns74_1 hE wn_none ⟨B_gh, trivial⟩ (fun W hS => (st_move rfl)) ?_ (fun c a w h => hQ c a _ _ w h); clear hE a; intro a hE
    refine Rv.dq (listed' := #[κ, κ, κ, κ, κ, κ, κ, κ, κ, κ, κ, κ, ι, κ, ι, ι]) (v := Value.agg #[Value.int .i64 0, Value.int .i64 0, Value.int .i64 0, Value.int .i64 0]) p74_1_11 ns74_1 hE wn_none ⟨B_gh, trivial⟩ (fun W hS => (st_extract rfl rfl)) ?_ (fun c a w h => hQ c a _ _ w h); clear hE a; intro a hE
    refine Rv.dq (listed' := #[κ, κ, κ, κ, κ, κ, κ, κ, κ, κ, κ, κ, κ, κ, ι, ι]) (v := Value.int .i64 er) p74_1_12 ns74_1 hE wn_none ⟨B_gh, trivial⟩ (fun W hS => (st_extract rfl rfl)) ?_ (fun c a w h => hQ c a _ _ w h); clear hE a; intro a hE
    exact dr1_3 g1_13 _ a (En.sub hE ⟨rfl, rfl, rfl, rfl, rfl, rfl, rfl, rfl, rfl, rfl, rfl, rfl, rfl, rfl, rfl, rfl, trivial⟩) B_gh B_g1_13 n_g1_13_gh z_0_g1_13 K_0
   exact all_nil
  have dr1_0 : ∀ (W : World) (a : Act), En 57 a [(0, Value.pointer (some ⟨gh, 0, none⟩)), (2, Value.int .i64 0), (6, Value.pointer (some ⟨gh, 0, none⟩)), (7, Value.pointer (some ⟨gh, 0, none⟩)), (8, Value.pointer (some ⟨gh, 73, none⟩)), (9, Value.pointer (some ⟨gh, 76, none⟩)), (10, RV), (11, Value.pointer (some ⟨gh, 0, none⟩)), (12, Value.pointer (some ⟨gh, 0, none⟩)), (13, Value.pointer (some ⟨gh, 77, none⟩)), (14, Value.int .i64 tg)] → W.heap[gh]? = some (.cells (HA cl fw ln nx hp sa da true mv dn wr fa ins rk num T l.length cT nd pf rt RV tg came own least wg).toArray 96 (0, 0)) → Kp w W (fun k => k = gh) → wpAnyH Try.prog .any (regOf Try.f74 1) QQ (fun W => W.heap[gh]? = some (.cells (HA cl fw ln nx hp sa da true mv dn wr fa ins rk num T l.length cT nd pf rt RV tg came own least wg).toArray 96 (0, 0)) ∧ True) 7 #[κ, κ, κ, κ, κ, κ, κ, κ, κ, ι, ι, ι, ι, ι, ι, ι] a W := by
   intro w45 a hE B_gh K_0
   refine d_all (rs := [9, 13]) (by kernel_rfl) rfl ?_
   refine all_cons (d_lit (listed' := #[κ, κ, κ, κ, κ, κ, κ, κ, κ, κ, ι, ι, ι, ι, ι, ι]) rfl ?_) ?_
   ·
    refine (s_call (xs := [Operand.tmp 10, Operand.tmp 14]) (args := [RV, Value.int .i64 tg]) p74_1_9 hE wn_none rfl rfl Try.func111 cl111 (hT.no tg hHAS _ K_0) ?_)
    rintro e w46 ⟨rfl, hk⟩
    replace B_gh := kp_blk B_gh hk (fun h => h)
    replace K_0 := K_0.then_ hk (fun _ h => h.elim)
    refine ⟨_, rfl, ?_⟩; clear hE a; intro a hE
    refine ⟨⟨B_gh, trivial⟩, ?_⟩
    refine Rv.dq (listed' := #[κ, κ, κ, κ, κ, κ, κ, κ, κ, κ, κ, ι, ι, ι, ι, ι]) (v := Value.tuple #[Value.agg #[Value.int .i64 0, Value.int .i64 0, Value.int .i64 0, Value.int .i64 0], Value.int .i64 er]) p74_1_10 ns74_1 hE wn_none ⟨B_gh, trivial⟩ (fun W hS => (st_move rfl)) ?_ (fun c a w h => hQ c a _ _ w h); clear hE a; intro a hE
    refine Rv.dq (listed' := #[κ, κ, κ, κ, κ, κ, κ, κ, κ, κ, κ, κ, ι, ι, ι, ι]) (v := Value.agg #[Value.int .i64 0, Value.int .i64 0, Value.int .i64 0, Value.int .i64 0]) p74_1_11 ns74_1 hE wn_none ⟨B_gh, trivial⟩ (fun W hS => (st_extract rfl rfl)) ?_ (fun c a w h => hQ c a _ _ w h); clear hE a; intro a hE
    refine Rv.dq (listed' := #[κ, κ, κ, κ, κ, κ, κ, κ, κ, κ, κ, κ, κ, ι, ι, ι]) (v := Value.int .i64 er) p74_1_12 ns74_1 hE wn_none ⟨B_gh, trivial⟩ (fun W hS => (st_extract rfl rfl)) ?_ (fun c a w h => hQ c a _ _ w h); clear hE a; intro a hE
    exact dr1_2 _ a (En.sub hE ⟨rfl, rfl, rfl, rfl, rfl, rfl, rfl, rfl, rfl, rfl, rfl, rfl, rfl, rfl, rfl, trivial⟩) B_gh K_0
   refine all_cons (d_lit (listed' := #[κ, κ, κ, κ, κ, κ, κ, κ, κ, ι, ι, ι, ι, κ, ι, ι]) rfl ?_) ?_
   ·
    refine (s_alloc p74_1_13 hE wn_none rfl tZ185 ?_)
    clear hE a; intro g1_13 w47 z48 B_g1_13 hk a hE
    replace B_g1_13 : w47.heap[g1_13]? = some (.cells #[Value.int .i64 0, Value.int .i64 0, Value.int .i64 0, Value.int .i64 0] 185 (0, 0)) := B_g1_13
    have n_gh_g1_13 : gh ≠ g1_13 := ne_new B_gh z48
    have z_0_g1_13 := Nat.le_trans K_0.kept.1 z48
    replace B_gh := kp_blk B_gh hk (fun h => h)
    replace K_0 := K_0.then_ hk (fun _ h => h.elim)
    clear hk
    refine ⟨⟨B_gh, trivial⟩, ?_⟩
    have n_g1_13_gh := Ne.symm n_gh_g1_13
    exact dr1_1 g1_13 _ a (En.sub hE ⟨rfl, rfl, rfl, rfl, rfl, rfl, rfl, rfl, rfl, rfl, rfl, rfl, trivial⟩) B_gh B_g1_13 n_g1_13_gh z_0_g1_13 K_0
   exact all_nil
  intro w27 hh hk
  replace B_gh := kp_blk B_gh hk (fun h => h)
  replace K_0 := K_0.then_ hk (fun _ h => h.elim)
  clear hh hk
  refine Rv.dq (listed' := #[κ, ι, ι, ι, ι, ι, ι, ι, ι, ι, ι, ι, ι, ι, ι, ι]) (v := Value.pointer (some ⟨gh, 0, none⟩)) p74_1_0 ns74_1 hE wn_none ⟨B_gh, trivial⟩ (fun W hS => (st_move rfl)) ?_ (fun c a w h => hQ c a _ _ w h); clear hE a; intro a hE
  refine Rv.dq (listed' := #[κ, κ, ι, ι, ι, ι, ι, ι, ι, ι, ι, ι, ι, ι, ι, ι]) (v := Value.pointer (some ⟨gh, 0, none⟩)) p74_1_1 ns74_1 hE wn_none ⟨B_gh, trivial⟩ (fun W hS => (st_nil rfl)) ?_ (fun c a w h => hQ c a _ _ w h); clear hE a; intro a hE
  refine Rv.dq (listed' := #[κ, κ, κ, ι, ι, ι, ι, ι, ι, ι, ι, ι, ι, ι, ι, ι]) (v := Value.pointer (some ⟨gh, 73, none⟩)) p74_1_2 ns74_1 hE wn_none ⟨B_gh, trivial⟩ (fun W hS => (st_fieldAddr Try.underlying96 rfl tS41 rfl rfl)) ?_ (fun c a w h => hQ c a _ _ w h); clear hE a; intro a hE
  refine Rv.dq (listed' := #[κ, κ, κ, κ, ι, ι, ι, ι, ι, ι, ι, ι, ι, ι, ι, ι]) (v := Value.pointer (some ⟨gh, 76, none⟩)) p74_1_3 ns74_1 hE wn_none ⟨B_gh, trivial⟩ (fun W hS => (st_fieldAddr Try.underlying41 rfl tS39 rfl rfl)) ?_ (fun c a w h => hQ c a _ _ w h); clear hE a; intro a hE
  refine Rv.dq (listed' := #[κ, κ, κ, κ, κ, ι, ι, ι, ι, ι, ι, ι, ι, ι, ι, ι]) (v := RV) p74_1_4 ns74_1 hE wn_none ⟨B_gh, trivial⟩ (fun W hS => (st_load1 tA39 rfl ((blk_cell hS.1 76).trans rfl))) ?_ (fun c a w h => hQ c a _ _ w h); clear hE a; intro a hE
  refine Rv.dq (listed' := #[κ, κ, κ, κ, κ, κ, ι, ι, ι, ι, ι, ι, ι, ι, ι, ι]) (v := Value.pointer (some ⟨gh, 0, none⟩)) p74_1_5 ns74_1 hE wn_none ⟨B_gh, trivial⟩ (fun W hS => (st_move rfl)) ?_ (fun c a w h => hQ c a _ _ w h); clear hE a; intro a hE
  refine Rv.dq (listed' := #[κ, κ, κ, κ, κ, κ, κ, ι, ι, ι, ι, ι, ι, ι, ι, ι]) (v := Value.pointer (some ⟨gh, 0, none⟩)) p74_1_6 ns74_1 hE wn_none ⟨B_gh, trivial⟩ (fun W hS => (st_nil rfl)) ?_ (fun c a w h => hQ c a _ _ w h); clear hE a; intro a hE
  refine Rv.dq (listed' := #[κ, κ, κ, κ, κ, κ, κ, κ, ι, ι, ι, ι, ι, ι, ι, ι]) (v := Value.pointer (some ⟨gh, 77, none⟩)) p74_1_7 ns74_1 hE wn_none ⟨B_gh, trivial⟩ (fun W hS => (st_fieldAddr Try.underlying96 rfl tS3 rfl rfl)) ?_ (fun c a w h => hQ c a _ _ w h); clear hE a; intro a hE
  refine Rv.dq (listed' := #[κ, κ, κ, κ, κ, κ, κ, κ, κ, ι, ι, ι, ι, ι, ι, ι]) (v := Value.int .i64 tg) p74_1_8 ns74_1 hE wn_none ⟨B_gh, trivial⟩ (fun W hS => (st_load1 tA3 rfl ((blk_cell hS.1 77).trans rfl))) ?_ (fun c a w h => hQ c a _ _ w h); clear hE a; intro a hE
  exact dr1_0 _ a (En.sub hE ⟨rfl, rfl, rfl, rfl, rfl, rfl, rfl, rfl, rfl, rfl, rfl, trivial⟩) B_gh K_0

set_option maxHeartbeats 4000000 in
theorem lost_0 (cl fw ln nx hp : Int) (sa da : Nat → Int) (mv : Nat → Value) (dn wr fa : Bool) (ins rk num : Int) (T : Option Addr) (cT : Nat) (l : List Int) (nd pf : Int) (rt : Bool) (RV : Value) (tg came own least : Int) (wg : Bool) (gh : Nat) (hmv : ∀ j, (mv j).oneCell' = true) (w : World) (v : Int → Int) (g : Int → Int × Int × Int) (er : Int) (hT : Tb RV v g er w (fun k => k = gh)) (hce : came = -1 ∨ 0 ≤ came) (h0 : came = -1) (hB : w.heap[gh]? = some (.cells (HA cl fw ln nx hp sa da true mv dn wr fa ins rk num T l.length cT nd pf rt RV tg came own least wg).toArray 96 (0, 0))) (F_T : ∀ W', Kp w W' (fun k => k = gh) → Kd.C (Kd.int .u8) W' T l.length l) (hml : l.length ≤ 900000) : Calls Try.prog 74 #[Value.pointer (some ⟨gh, 0, none⟩)] w fun e w' => e = .returned (.int .i64 0) ∧ w'.heap[gh]? = some (.cells (HA cl fw ln nx hp sa da true mv dn wr fa ins rk num T l.length cT nd pf rt RV tg came own least wg).toArray 96 (0, 0)) ∧ Kp w w' (fun k => k = gh) := by
 have K_0 := Kp.refl w (fun k => k = gh)
 have B_gh := hB
 refine enter (args := [Value.pointer (some ⟨gh, 0, none⟩)]) (n := 57) Try.func74 body74 rfl rfl rfl ?_
 intro a hE
 refine c_reg R74_0_l ?_
 refine q0 p74_0_0 hE (st_assign rfl) ?_; clear hE a; intro a hE
 refine p_nil (x_norm ?_)
 rcases Decidable.em (0 ≤ v tg) with hHAS | hHAS
 ·
  refine c_drawMS (S := fun W => W.heap[gh]? = some (.cells (HA cl fw ln nx hp sa da true mv dn wr fa ins rk num T l.length cT nd pf rt RV tg came own least wg).toArray 96 (0, 0)) ∧ True) rfl rfl (listed := #[ι, ι, ι, ι, ι, ι, ι, ι, ι, ι, ι, ι, ι, ι, ι, ι]) rfl pan_body (fun QQ hQ hend => ?_)
  have dr1_4 : ∀ (g1_13 : Nat) (W : World) (a : Act), En 57 a [(0, Value.pointer (some ⟨gh, 0, none⟩)), (2, Value.int .i64 0), (3, Value.pointer (some ⟨g1_13, 0, none⟩)), (4, Value.int .i64 0), (5, Value.tuple #[Value.agg #[Value.int .i64 ((g tg).1), Value.int .i64 (v tg), Value.int .i64 ((g tg).2.1), Value.int .i64 ((g tg).2.2)], Value.int .i64 0]), (6, Value.pointer (some ⟨gh, 0, none⟩)), (7, Value.pointer (some ⟨gh, 0, none⟩)), (8, Value.pointer (some ⟨gh, 73, none⟩)), (9, Value.pointer (some ⟨gh, 76, none⟩)), (10, RV), (11, Value.pointer (some ⟨gh, 0, none⟩)), (12, Value.pointer (some ⟨gh, 0, none⟩)), (13, Value.pointer (some ⟨gh, 77, none⟩)), (14, Value.int .i64 tg), (15, Value.tuple #[Value.agg #[Value.int .i64 ((g tg).1), Value.int .i64 (v tg), Value.int .i64 ((g tg).2.1), Value.int .i64 ((g tg).2.2)], Value.int .i64 0]), (16, Value.agg #[Value.int .i64 ((g tg).1), Value.int .i64 (v tg), Value.int .i64 ((g tg).2.1), Value.int .i64 ((g tg).2.2)]), (17, Value.int .i64 0)] → W.heap[gh]? = some (.cells (HA cl fw ln nx hp sa da true mv dn wr fa ins rk num T l.length cT nd pf rt RV tg came own least wg).toArray 96 (0, 0)) → W.heap[g1_13]? = some (.cells #[Value.int .i64 ((g tg).1), Value.int .i64 (v tg), Value.int .i64 ((g tg).2.1), Value.int .i64 ((g tg).2.2)] 185 (0, 0)) → g1_13 ≠ gh → w.heap.size ≤ g1_13 → Kp w W (fun k => k = gh) → wpAnyH Try.prog .any (regOf Try.f74 1) QQ (fun W => W.heap[gh]? = some (.cells (HA cl fw ln nx hp sa da true mv dn wr fa ins rk num T l.length cT nd pf rt RV tg came own least wg).toArray 96 (0, 0)) ∧ True) 0 #[κ, κ, κ, κ, κ, κ, κ, κ, κ, κ, κ, κ, κ, κ, κ, κ] a W := by
   intro g1_13 w9 a hE B_gh B_g1_13 n_g1_13_gh z_0_g1_13 K_0
   refine d_end (by kernel_rfl) (hend _ _ ?_)
   refine wp_seq ?_
   refine c_drawS (S := fun W => W.heap[gh]? = some (.cells (HA cl fw ln nx hp sa da true mv dn wr fa ins rk num T l.length cT nd pf rt RV tg came own least wg).toArray 96 (0, 0)) ∧ W.heap[g1_13]? = some (.cells #[Value.int .i64 ((g tg).1), Value.int .i64 (v tg), Value.int .i64 ((g tg).2.1), Value.int .i64 ((g tg).2.2)] 185 (0, 0)) ∧ True) rfl rfl (listed := #[ι, ι, ι, ι, ι, ι, ι, ι, ι, ι, ι, ι, ι, ι, ι, ι, ι, ι, ι, ι, ι, ι, ι, ι, ι, ι, ι]) rfl ?_
   intro w10 hh hk
   replace B_gh := kp_blk B_gh hk (fun h => h)
   replace B_g1_13 := kp_blk B_g1_13 hk (fun h => h)
   replace K_0 := K_0.then_ hk (fun _ h => h.elim)
   clear hh hk
   refine Rv.dm ns74_2 hE ⟨B_gh, B_g1_13, trivial⟩ (Rv.dc p74_2_0 (fun W hS => (st_move rfl)) rfl (Rv.dc p74_2_1 (fun W hS => (st_nil rfl)) rfl (Rv.dc (v := Value.pointer (some ⟨gh, 78, none⟩)) p74_2_2 (fun W hS => (st_fieldAddr Try.underlying96 rfl tS3 rfl rfl)) rfl (Rv.dc (v := Value.int .i64 came) p74_2_3 (fun W hS => (st_load1 tA3 rfl ((blk_cell hS.1 78).trans rfl))) rfl (Rv.dc (v := Value.bool true) p74_2_4 (fun W hS => (st_eql (b := true) rfl rfl (decide_eq_true h0))) rfl (Rv.dc p74_2_5 (fun W hS => (st_move rfl)) rfl (Rv.ds p74_2_6 (wn_some g74_2_5 rfl rfl) (Rv.ds p74_2_7 (wn_some g74_2_5 rfl rfl) (Rv.ds p74_2_8 (wn_some g74_2_5 rfl rfl) (Rv.ds p74_2_9 (wn_some g74_2_5 rfl rfl) (Rv.ds p74_2_10 (wn_some g74_2_5 rfl rfl) (Rv.ds p74_2_11 (wn_some g74_2_5 rfl rfl) (Rv.ds p74_2_12 (wn_some g74_2_5 rfl rfl) (Rv.dc p74_2_13 (fun W hS => (st_pick rfl rfl)) rfl (Rv.dc p74_2_14 (fun W hS => (st_move rfl)) rfl (Rv.ds p74_2_15 (wn_some g74_2_14 rfl rfl) (Rv.ds p74_2_16 (wn_some g74_2_14 rfl rfl) (Rv.dc p74_2_17 (fun W hS => (st_pick rfl rfl)) rfl (Rv.dc p74_2_18 (fun W hS => (st_move rfl)) rfl (Rv.ds p74_2_19 (wn_some g74_2_18 rfl rfl) (Rv.ds p74_2_20 (wn_some g74_2_18 rfl rfl) (Rv.ds p74_2_21 (wn_some g74_2_18 rfl rfl) (Rv.ds p74_2_22 (wn_some g74_2_18 rfl rfl) (Rv.ds p74_2_23 (wn_some g74_2_18 rfl rfl) (Rv.ds p74_2_24 (wn_some g74_2_18 rfl rfl) (Rv.ds p74_2_25 (wn_some g74_2_18 rfl rfl) (Rv.dc p74_2_26 (fun W hS => (st_pick rfl rfl)) rfl Rv.dn))))))))))))))))))))))))))) ?_; clear hE a; intro a hE
   refine d_end (by kernel_rfl) ?_
   refine x_norm ?_
   refine c_cond (t := true) hE rfl ?_
   refine c_reg R74_3_l ?_
   refine q0 p74_3_0 hE (st_assign rfl) ?_; clear hE a; intro a hE
   refine p_nil (x_norm (wp_ret (x_ret ?_)))
   refine ret_one (v := Value.int .i64 0) rfl hE (.tmp rfl .nil) ?_
   exact ⟨rfl, B_gh, K_0⟩
  have dr1_3 : ∀ (g1_13 : Nat) (W : World) (a : Act), En 57 a [(0, Value.pointer (some ⟨gh, 0, none⟩)), (2, Value.int .i64 0), (3, Value.pointer (some ⟨g1_13, 0, none⟩)), (5, Value.tuple #[Value.agg #[Value.int .i64 ((g tg).1), Value.int .i64 (v tg), Value.int .i64 ((g tg).2.1), Value.int .i64 ((g tg).2.2)], Value.int .i64 0]), (6, Value.pointer (some ⟨gh, 0, none⟩)), (7, Value.pointer (some ⟨gh, 0, none⟩)), (8, Value.pointer (some ⟨gh, 73, none⟩)), (9, Value.pointer (some ⟨gh, 76, none⟩)), (10, RV), (11, Value.pointer (some ⟨gh, 0, none⟩)), (12, Value.pointer (some ⟨gh, 0, none⟩)), (13, Value.pointer (some ⟨gh, 77, none⟩)), (14, Value.int .i64 tg), (15, Value.tuple #[Value.agg #[Value.int .i64 ((g tg).1), Value.int .i64 (v tg), Value.int .i64 ((g tg).2.1), Value.int .i64 ((g tg).2.2)], Value.int .i64 0]), (16, Value.agg #[Value.int .i64 ((g tg).1), Value.int .i64 (v tg), Value.int .i64 ((g tg).2.1), Value.int .i64 ((g tg).2.2)]), (17, Value.int .i64 0)] → W.heap[gh]? = some (.cells (HA cl fw ln nx hp sa da true mv dn wr fa ins rk num T l.length cT nd pf rt RV tg came own least wg).toArray 96 (0, 0)) → W.heap[g1_13]? = some (.cells #[Value.int .i64 0, Value.int .i64 0, Value.int .i64 0, Value.int .i64 0] 185 (0, 0)) → g1_13 ≠ gh → w.heap.size ≤ g1_13 → Kp w W (fun k => k = gh) → wpAnyH Try.prog .any (regOf Try.f74 1) QQ (fun W => W.heap[gh]? = some (.cells (HA cl fw ln nx hp sa da true mv dn wr fa ins rk num T l.length cT nd pf rt RV tg came own least wg).toArray 96 (0, 0)) ∧ True) 2 #[κ, κ, κ, κ, κ, κ, κ, κ, κ, κ, κ, κ, κ, κ, ι, ι] a W := by
   intro g1_13 w11 a hE B_gh B_g1_13 n_g1_13_gh z_0_g1_13 K_0
   refine d_all (rs := [14]) (by kernel_rfl) rfl ?_
   refine all_cons (d_lit (listed' := #[κ, κ, κ, κ, κ, κ, κ, κ, κ, κ, κ, κ, κ, κ, κ, ι]) rfl ?_) ?_
   ·
    refine (s_store (off := 0) (k := 4) (cs' := #[Value.int .i64 ((g tg).1), Value.int .i64 (v tg), Value.int .i64 ((g tg).2.1), Value.int .i64 ((g tg).2.2)]) p74_1_14 hE wn_none tS185 rfl rfl rfl rfl B_g1_13 (Nat.le_of_ble_eq_true rfl) rfl ?_)
    intro w12 B_g1_13' hk
    replace B_gh := kp_blk B_gh hk (Ne.symm n_g1_13_gh)
    replace K_0 := K_0.then_ hk (fun k h => by rw [show k = g1_13 from h]; exact Or.inr z_0_g1_13)
    replace B_g1_13 := B_g1_13'
    clear hk
    refine ⟨⟨B_gh, trivial⟩, ?_⟩
    refine Rv.dq (listed' := #[κ, κ, κ, κ, κ, κ, κ, κ, κ, κ, κ, κ, κ, κ, κ, κ]) (v := Value.int .i64 0) p74_1_15 ns74_1 hE wn_none ⟨B_gh, trivial⟩ (fun W hS => (st_assign rfl)) ?_ (fun c a w h => hQ c a _ _ w h); clear hE a; intro a hE
    exact dr1_4 g1_13 _ a (En.sub hE ⟨rfl, rfl, rfl, rfl, rfl, rfl, rfl, rfl, rfl, rfl, rfl, rfl, rfl, rfl, rfl, rfl, rfl, trivial⟩) B_gh B_g1_13 n_g1_13_gh z_0_g1_13 K_0
   exact all_nil
  have dr1_2 : ∀ (W : World) (a : Act), En 57 a [(0, Value.pointer (some ⟨gh, 0, none⟩)), (2, Value.int .i64 0), (5, Value.tuple #[Value.agg #[Value.int .i64 ((g tg).1), Value.int .i64 (v tg), Value.int .i64 ((g tg).2.1), Value.int .i64 ((g tg).2.2)], Value.int .i64 0]), (6, Value.pointer (some ⟨gh, 0, none⟩)), (7, Value.pointer (some ⟨gh, 0, none⟩)), (8, Value.pointer (some ⟨gh, 73, none⟩)), (9, Value.pointer (some ⟨gh, 76, none⟩)), (10, RV), (11, Value.pointer (some ⟨gh, 0, none⟩)), (12, Value.pointer (some ⟨gh, 0, none⟩)), (13, Value.pointer (some ⟨gh, 77, none⟩)), (14, Value.int .i64 tg), (15, Value.tuple #[Value.agg #[Value.int .i64 ((g tg).1), Value.int .i64 (v tg), Value.int .i64 ((g tg).2.1), Value.int .i64 ((g tg).2.2)], Value.int .i64 0]), (16, Value.agg #[Value.int .i64 ((g tg).1), Value.int .i64 (v tg), Value.int .i64 ((g tg).2.1), Value.int .i64 ((g tg).2.2)]), (17, Value.int .i64 0)] → W.heap[gh]? = some (.cells (HA cl fw ln nx hp sa da true mv dn wr fa ins rk num T l.length cT nd pf rt RV tg came own least wg).toArray 96 (0, 0)) → Kp w W (fun k => k = gh) → wpAnyH Try.prog .any (regOf Try.f74 1) QQ (fun W => W.heap[gh]? = some (.cells (HA cl fw ln nx hp sa da true mv dn wr fa ins rk num T l.length cT nd pf rt RV tg came own least wg).toArray 96 (0, 0)) ∧ True) 3 #[κ, κ, κ, κ, κ, κ, κ, κ, κ, κ, κ, κ, κ, ι, ι, ι] a W := by
   intro w13 a hE B_gh K_0
   refine d_all (rs := [13]) (by kernel_rfl) rfl ?_
   refine all_cons (d_lit (listed' := #[κ, κ, κ, κ, κ, κ, κ, κ, κ, κ, κ, κ, κ, κ, ι, ι]) rfl ?_) ?_
   ·
    refine (s_alloc p74_1_13 hE wn_none rfl tZ185 ?_)
    clear hE a; intro g1_13 w14 z15 B_g1_13 hk a hE
    replace B_g1_13 : w14.heap[g1_13]? = some (.cells #[Value.int .i64 0, Value.int .i64 0, Value.int .i64 0, Value.int .i64 0] 185 (0, 0)) := B_g1_13
    have n_gh_g1_13 : gh ≠ g1_13 := ne_new B_gh z15
    have z_0_g1_13 := Nat.le_trans K_0.kept.1 z15
    replace B_gh := kp_blk B_gh hk (fun h => h)
    replace K_0 := K_0.then_ hk (fun _ h => h.elim)
    clear hk
    refine ⟨⟨B_gh, trivial⟩, ?_⟩
    have n_g1_13_gh := Ne.symm n_gh_g1_13
    exact dr1_3 g1_13 _ a (En.sub hE ⟨rfl, rfl, rfl, rfl, rfl, rfl, rfl, rfl, rfl, rfl, rfl, rfl, rfl, rfl, rfl, rfl, trivial⟩) B_gh B_g1_13 n_g1_13_gh z_0_g1_13 K_0
   exact all_nil
  have dr1_1 : ∀ (g1_13 : Nat) (W : World) (a : Act), En 57 a [(0, Value.pointer (some ⟨gh, 0, none⟩)), (2, Value.int .i64 0), (3, Value.pointer (some ⟨g1_13, 0, none⟩)), (6, Value.pointer (some ⟨gh, 0, none⟩)), (7, Value.pointer (some ⟨gh, 0, none⟩)), (8, Value.pointer (some ⟨gh, 73, none⟩)), (9, Value.pointer (some ⟨gh, 76, none⟩)), (10, RV), (11, Value.pointer (some ⟨gh, 0, none⟩)), (12, Value.pointer (some ⟨gh, 0, none⟩)), (13, Value.pointer (some ⟨gh, 77, none⟩)), (14, Value.int .i64 tg)] → W.heap[gh]? = some (.cells (HA cl fw ln nx hp sa da true mv dn wr fa ins rk num T l.length cT nd pf rt RV tg came own least wg).toArray 96 (0, 0)) → W.heap[g1_13]? = some (.cells #[Value.int .i64 0, Value.int .i64 0, Value.int .i64 0, Value.int .i64 0] 185 (0, 0)) → g1_13 ≠ gh → w.heap.size ≤ g1_13 → Kp w W (fun k => k = gh) → wpAnyH Try.prog .any (regOf Try.f74 1) QQ (fun W => W.heap[gh]? = some (.cells (HA cl fw ln nx hp sa da true mv dn wr fa ins rk num T l.length cT nd pf rt RV tg came own least wg).toArray 96 (0, 0)) ∧ True) 6 #[κ, κ, κ, κ, κ, κ, κ, κ, κ, ι, ι, ι, ι, κ, ι, ι] a W := by
   intro g1_13 w16 a hE B_gh B_g1_13 n_g1_13_gh z_0_g1_13 K_0
   refine d_all (rs := [9]) (by kernel_rfl) rfl ?_
   refine all_cons (d_lit (listed' := #[κ, κ, κ, κ, κ, κ, κ, κ, κ, κ, ι, ι, ι, κ, ι, ι]) rfl ?_) ?_
   ·
    refine (s_call (xs := [Operand.tmp 10, Operand.tmp 14]) (args := [RV, Value.int .i64 tg]) p74_1_9 hE wn_none rfl rfl Try.func111 cl111 (hT.yes tg hHAS _ K_0) ?_)
    rintro e w17 ⟨rfl, hk⟩
    replace B_gh := kp_blk B_gh hk (fun h => h)
    replace B_g1_13 := kp_blk B_g1_13 hk (fun h => h)
    replace K_0 := K_0.then_ hk (fun _ h => h.elim)
    refine ⟨_, rfl, ?_⟩; clear hE a; intro a hE
    refine ⟨⟨B_gh, trivial⟩, ?_⟩
    refine Rv.dq (listed' := #[κ, κ, κ, κ, κ, κ, κ, κ, κ, κ, κ, ι, ι, κ, ι, ι]) (v := Value.tuple #[Value.agg #[Value.int .i64 ((g tg).1), Value.int .i64 (v tg), Value.int .i64 ((g tg).2.1), Value.int .i64 ((g tg).2.2)], Value.int .i64 0]) p74_1_10 ns74_1 hE wn_none ⟨B_gh, trivial⟩ (fun W hS => (st_move rfl)) ?_ (fun c a w h => hQ c a _ _ w h); clear hE a; intro a hE
    refine Rv.dq (listed' := #[κ, κ, κ, κ, κ, κ, κ, κ, κ, κ, κ, κ, ι, κ, ι, ι]) (v := Value.agg #[Value.int .i64 ((g tg).1), Value.int .i64 (v tg), Value.int .i64 ((g tg).2.1), Value.int .i64 ((g tg).2.2)]) p74_1_11 ns74_1 hE wn_none ⟨B_gh, trivial⟩ (fun W hS => (st_extract rfl rfl)) ?_ (fun c a w h => hQ c a _ _ w h); clear hE a; intro a hE
    refine Rv.dq (listed' := #[κ, κ, κ, κ, κ, κ, κ, κ, κ, κ, κ, κ, κ, κ, ι, ι]) (v := Value.int .i64 0) p74_1_12 ns74_1 hE wn_none ⟨B_gh, trivial⟩ (fun W hS => (st_extract rfl rfl)) ?_ (fun c a w h => hQ c a _ _ w h); clear hE a; intro a hE
    exact dr1_3 g1_13 _ a (En.sub hE ⟨rfl, rfl, rfl, rfl, rfl, rfl, rfl, rfl, rfl, rfl, rfl, rfl, rfl, rfl, rfl, rfl, trivial⟩) B_gh B_g1_13 n_g1_13_gh z_0_g1_13 K_0
   exact all_nil
  have dr1_0 : ∀ (W : World) (a : Act), En 57 a [(0, Value.pointer (some ⟨gh, 0, none⟩)), (2, Value.int .i64 0), (6, Value.pointer (some ⟨gh, 0, none⟩)), (7, Value.pointer (some ⟨gh, 0, none⟩)), (8, Value.pointer (some ⟨gh, 73, none⟩)), (9, Value.pointer (some ⟨gh, 76, none⟩)), (10, RV), (11, Value.pointer (some ⟨gh, 0, none⟩)), (12, Value.pointer (some ⟨gh, 0, none⟩)), (13, Value.pointer (some ⟨gh, 77, none⟩)), (14, Value.int .i64 tg)] → W.heap[gh]? = some (.cells (HA cl fw ln nx hp sa da true mv dn wr fa ins rk num T l.length cT nd pf rt RV tg came own least wg).toArray 96 (0, 0)) → Kp w W (fun k => k = gh) → wpAnyH Try.prog .any (regOf Try.f74 1) QQ (fun W => W.heap[gh]? = some (.cells (HA cl fw ln nx hp sa da true mv dn wr fa ins rk num T l.length cT nd pf rt RV tg came own least wg).toArray 96 (0, 0)) ∧ True) 7 #[κ, κ, κ, κ, κ, κ, κ, κ, κ, ι, ι, ι, ι, ι, ι, ι] a W := by
   intro w18 a hE B_gh K_0
   refine d_all (rs := [9, 13]) (by kernel_rfl) rfl ?_
   refine all_cons (d_lit (listed' := #[κ, κ, κ, κ, κ, κ, κ, κ, κ, κ, ι, ι, ι, ι, ι, ι]) rfl ?_) ?_
   ·
    refine (s_call (xs := [Operand.tmp 10, Operand.tmp 14]) (args := [RV, Value.int .i64 tg]) p74_1_9 hE wn_none rfl rfl Try.func111 cl111 (hT.yes tg hHAS _ K_0) ?_)
    rintro e w19 ⟨rfl, hk⟩
    replace B_gh := kp_blk B_gh hk (fun h => h)
    replace K_0 := K_0.then_ hk (fun _ h => h.elim)
    refine ⟨_, rfl, ?_⟩; clear hE a; intro a hE
    refine ⟨⟨B_gh, trivial⟩, ?_⟩
    refine Rv.dq (listed' := #[κ, κ, κ, κ, κ, κ, κ, κ, κ, κ, κ, ι, ι, ι, ι, ι]) (v := Value.tuple #[Value.agg #[Value.int .i64 ((g tg).1), Value.int .i64 (v tg), Value.int .i64 ((g tg).2.1), Value.int .i64 ((g tg).2.2)], Value.int .i64 0]) p74_1_10 ns74_1 hE wn_none ⟨B_gh, trivial⟩ (fun W hS => (st_move rfl)) ?_ (fun c a w h => hQ c a _ _ w h); clear hE a; intro a hE
    refine Rv.dq (listed' := #[κ, κ, κ, κ, κ, κ, κ, κ, κ, κ, κ, κ, ι, ι, ι, ι]) (v := Value.agg #[Value.int .i64 ((g tg).1), Value.int .i64 (v tg), Value.int .i64 ((g tg).2.1), Value.int .i64 ((g tg).2.2)]) p74_1_11 ns74_1 hE wn_none ⟨B_gh, trivial⟩ (fun W hS => (st_extract rfl rfl)) ?_ (fun c a w h => hQ c a _ _ w h); clear hE a; intro a hE
    refine Rv.dq (listed' := #[κ, κ, κ, κ, κ, κ, κ, κ, κ, κ, κ, κ, κ, ι, ι, ι]) (v := Value.int .i64 0) p74_1_12 ns74_1 hE wn_none ⟨B_gh, trivial⟩ (fun W hS => (st_extract rfl rfl)) ?_ (fun c a w h => hQ c a _ _ w h); clear hE a; intro a hE
    exact dr1_2 _ a (En.sub hE ⟨rfl, rfl, rfl, rfl, rfl, rfl, rfl, rfl, rfl, rfl, rfl, rfl, rfl, rfl, rfl, trivial⟩) B_gh K_0
   refine all_cons (d_lit (listed' := #[κ, κ, κ, κ, κ, κ, κ, κ, κ, ι, ι, ι, ι, κ, ι, ι]) rfl ?_) ?_
   ·
    refine (s_alloc p74_1_13 hE wn_none rfl tZ185 ?_)
    clear hE a; intro g1_13 w20 z21 B_g1_13 hk a hE
    replace B_g1_13 : w20.heap[g1_13]? = some (.cells #[Value.int .i64 0, Value.int .i64 0, Value.int .i64 0, Value.int .i64 0] 185 (0, 0)) := B_g1_13
    have n_gh_g1_13 : gh ≠ g1_13 := ne_new B_gh z21
    have z_0_g1_13 := Nat.le_trans K_0.kept.1 z21
    replace B_gh := kp_blk B_gh hk (fun h => h)
    replace K_0 := K_0.then_ hk (fun _ h => h.elim)
    clear hk
    refine ⟨⟨B_gh, trivial⟩, ?_⟩
    have n_g1_13_gh := Ne.symm n_gh_g1_13
    exact dr1_1 g1_13 _ a (En.sub hE ⟨rfl, rfl, rfl, rfl, rfl, rfl, rfl, rfl, rfl, rfl, rfl, rfl, trivial⟩) B_gh B_g1_13 n_g1_13_gh z_0_g1_13 K_0
   exact all_nil
  intro w1 hh hk
  replace B_gh := kp_blk B_gh hk (fun h => h)
  replace K_0 := K_0.then_ hk (fun _ h => h.elim)
  clear hh hk
  refine Rv.dq (listed' := #[κ, ι, ι, ι, ι, ι, ι, ι, ι, ι, ι, ι, ι, ι, ι, ι]) (v := Value.pointer (some ⟨gh, 0, none⟩)) p74_1_0 ns74_1 hE wn_none ⟨B_gh, trivial⟩ (fun W hS => (st_move rfl)) ?_ (fun c a w h => hQ c a _ _ w h); clear hE a; intro a hE
  refine Rv.dq (listed' := #[κ, κ, ι, ι, ι, ι, ι, ι, ι, ι, ι, ι, ι, ι, ι, ι]) (v := Value.pointer (some ⟨gh, 0, none⟩)) p74_1_1 ns74_1 hE wn_none ⟨B_gh, trivial⟩ (fun W hS => (st_nil rfl)) ?_ (fun c a w h => hQ c a _ _ w h); clear hE a; intro a hE
  refine Rv.dq (listed' := #[κ, κ, κ, ι, ι, ι, ι, ι, ι, ι, ι, ι, ι, ι, ι, ι]) (v := Value.pointer (some ⟨gh, 73, none⟩)) p74_1_2 ns74_1 hE wn_none ⟨B_gh, trivial⟩ (fun W hS => (st_fieldAddr Try.underlying96 rfl tS41 rfl rfl)) ?_ (fun c a w h => hQ c a _ _ w h); clear hE a; intro a hE
  refine Rv.dq (listed' := #[κ, κ, κ, κ, ι, ι, ι, ι, ι, ι, ι, ι, ι, ι, ι, ι]) (v := Value.pointer (some ⟨gh, 76, none⟩)) p74_1_3 ns74_1 hE wn_none ⟨B_gh, trivial⟩ (fun W hS => (st_fieldAddr Try.underlying41 rfl tS39 rfl rfl)) ?_ (fun c a w h => hQ c a _ _ w h); clear hE a; intro a hE
  refine Rv.dq (listed' := #[κ, κ, κ, κ, κ, ι, ι, ι, ι, ι, ι, ι, ι, ι, ι, ι]) (v := RV) p74_1_4 ns74_1 hE wn_none ⟨B_gh, trivial⟩ (fun W hS => (st_load1 tA39 rfl ((blk_cell hS.1 76).trans rfl))) ?_ (fun c a w h => hQ c a _ _ w h); clear hE a; intro a hE
  refine Rv.dq (listed' := #[κ, κ, κ, κ, κ, κ, ι, ι, ι, ι, ι, ι, ι, ι, ι, ι]) (v := Value.pointer (some ⟨gh, 0, none⟩)) p74_1_5 ns74_1 hE wn_none ⟨B_gh, trivial⟩ (fun W hS => (st_move rfl)) ?_ (fun c a w h => hQ c a _ _ w h); clear hE a; intro a hE
  refine Rv.dq (listed' := #[κ, κ, κ, κ, κ, κ, κ, ι, ι, ι, ι, ι, ι, ι, ι, ι]) (v := Value.pointer (some ⟨gh, 0, none⟩)) p74_1_6 ns74_1 hE wn_none ⟨B_gh, trivial⟩ (fun W hS => (st_nil rfl)) ?_ (fun c a w h => hQ c a _ _ w h); clear hE a; intro a hE
  refine Rv.dq (listed' := #[κ, κ, κ, κ, κ, κ, κ, κ, ι, ι, ι, ι, ι, ι, ι, ι]) (v := Value.pointer (some ⟨gh, 77, none⟩)) p74_1_7 ns74_1 hE wn_none ⟨B_gh, trivial⟩ (fun W hS => (st_fieldAddr Try.underlying96 rfl tS3 rfl rfl)) ?_ (fun c a w h => hQ c a _ _ w h); clear hE a; intro a hE
  refine Rv.dq (listed' := #[κ, κ, κ, κ, κ, κ, κ, κ, κ, ι, ι, ι, ι, ι, ι, ι]) (v := Value.int .i64 tg) p74_1_8 ns74_1 hE wn_none ⟨B_gh, trivial⟩ (fun W hS => (st_load1 tA3 rfl ((blk_cell hS.1 77).trans rfl))) ?_ (fun c a w h => hQ c a _ _ w h); clear hE a; intro a hE
  exact dr1_0 _ a (En.sub hE ⟨rfl, rfl, rfl, rfl, rfl, rfl, rfl, rfl, rfl, rfl, rfl, trivial⟩) B_gh K_0
 ·
  refine c_drawMS (S := fun W => W.heap[gh]? = some (.cells (HA cl fw ln nx hp sa da true mv dn wr fa ins rk num T l.length cT nd pf rt RV tg came own least wg).toArray 96 (0, 0)) ∧ True) rfl rfl (listed := #[ι, ι, ι, ι, ι, ι, ι, ι, ι, ι, ι, ι, ι, ι, ι, ι]) rfl pan_body (fun QQ hQ hend => ?_)
  have dr1_4 : ∀ (g1_13 : Nat) (W : World) (a : Act), En 57 a [(0, Value.pointer (some ⟨gh, 0, none⟩)), (2, Value.int .i64 0), (3, Value.pointer (some ⟨g1_13, 0, none⟩)), (4, Value.int .i64 er), (5, Value.tuple #[Value.agg #[Value.int .i64 0, Value.int .i64 0, Value.int .i64 0, Value.int .i64 0], Value.int .i64 er]), (6, Value.pointer (some ⟨gh, 0, none⟩)), (7, Value.pointer (some ⟨gh, 0, none⟩)), (8, Value.pointer (some ⟨gh, 73, none⟩)), (9, Value.pointer (some ⟨gh, 76, none⟩)), (10, RV), (11, Value.pointer (some ⟨gh, 0, none⟩)), (12, Value.pointer (some ⟨gh, 0, none⟩)), (13, Value.pointer (some ⟨gh, 77, none⟩)), (14, Value.int .i64 tg), (15, Value.tuple #[Value.agg #[Value.int .i64 0, Value.int .i64 0, Value.int .i64 0, Value.int .i64 0], Value.int .i64 er]), (16, Value.agg #[Value.int .i64 0, Value.int .i64 0, Value.int .i64 0, Value.int .i64 0]), (17, Value.int .i64 er)] → W.heap[gh]? = some (.cells (HA cl fw ln nx hp sa da true mv dn wr fa ins rk num T l.length cT nd pf rt RV tg came own least wg).toArray 96 (0, 0)) → W.heap[g1_13]? = some (.cells #[Value.int .i64 0, Value.int .i64 0, Value.int .i64 0, Value.int .i64 0] 185 (0, 0)) → g1_13 ≠ gh → w.heap.size ≤ g1_13 → Kp w W (fun k => k = gh) → wpAnyH Try.prog .any (regOf Try.f74 1) QQ (fun W => W.heap[gh]? = some (.cells (HA cl fw ln nx hp sa da true mv dn wr fa ins rk num T l.length cT nd pf rt RV tg came own least wg).toArray 96 (0, 0)) ∧ True) 0 #[κ, κ, κ, κ, κ, κ, κ, κ, κ, κ, κ, κ, κ, κ, κ, κ] a W := by
   intro g1_13 w30 a hE B_gh B_g1_13 n_g1_13_gh z_0_g1_13 K_0
   refine d_end (by kernel_rfl) (hend _ _ ?_)
   refine wp_seq ?_
   refine c_drawS (S := fun W => W.heap[gh]? = some (.cells (HA cl fw ln nx hp sa da true mv dn wr fa ins rk num T l.length cT nd pf rt RV tg came own least wg).toArray 96 (0, 0)) ∧ W.heap[g1_13]? = some (.cells #[Value.int .i64 0, Value.int .i64 0, Value.int .i64 0, Value.int .i64 0] 185 (0, 0)) ∧ True) rfl rfl (listed := #[ι, ι, ι, ι, ι, ι, ι, ι, ι, ι, ι, ι, ι, ι, ι, ι, ι, ι, ι, ι, ι, ι, ι, ι, ι, ι, ι]) rfl ?_
   intro w31 hh hk
   replace B_gh := kp_blk B_gh hk (fun h => h)
   replace B_g1_13 := kp_blk B_g1_13 hk (fun h => h)
   replace K_0 := K_0.then_ hk (fun _ h => h.elim)
   clear hh hk
   refine Rv.dm ns74_2 hE ⟨B_gh, B_g1_13, trivial⟩ (Rv.dc p74_2_0 (fun W hS => (st_move rfl)) rfl (Rv.dc p74_2_1 (fun W hS => (st_nil rfl)) rfl (Rv.dc (v := Value.pointer (some ⟨gh, 78, none⟩)) p74_2_2 (fun W hS => (st_fieldAddr Try.underlying96 rfl tS3 rfl rfl)) rfl (Rv.dc (v := Value.int .i64 came) p74_2_3 (fun W hS => (st_load1 tA3 rfl ((blk_cell hS.1 78).trans rfl))) rfl (Rv.dc (v := Value.bool true) p74_2_4 (fun W hS => (st_eql (b := true) rfl rfl (decide_eq_true h0))) rfl (Rv.dc p74_2_5 (fun W hS => (st_move rfl)) rfl (Rv.ds p74_2_6 (wn_some g74_2_5 rfl rfl) (Rv.ds p74_2_7 (wn_some g74_2_5 rfl rfl) (Rv.ds p74_2_8 (wn_some g74_2_5 rfl rfl) (Rv.ds p74_2_9 (wn_some g74_2_5 rfl rfl) (Rv.ds p74_2_10 (wn_some g74_2_5 rfl rfl) (Rv.ds p74_2_11 (wn_some g74_2_5 rfl rfl) (Rv.ds p74_2_12 (wn_some g74_2_5 rfl rfl) (Rv.dc p74_2_13 (fun W hS => (st_pick rfl rfl)) rfl (Rv.dc p74_2_14 (fun W hS => (st_move rfl)) rfl (Rv.ds p74_2_15 (wn_some g74_2_14 rfl rfl) (Rv.ds p74_2_16 (wn_some g74_2_14 rfl rfl) (Rv.dc p74_2_17 (fun W hS => (st_pick rfl rfl)) rfl (Rv.dc p74_2_18 (fun W hS => (st_move rfl)) rfl (Rv.ds p74_2_19 (wn_some g74_2_18 rfl rfl) (Rv.ds p74_2_20 (wn_some g74_2_18 rfl rfl) (Rv.ds p74_2_21 (wn_some g74_2_18 rfl rfl) (Rv.ds p74_2_22 (wn_some g74_2_18 rfl rfl) (Rv.ds p74_2_23 (wn_some g74_2_18 rfl rfl) (Rv.ds p74_2_24 (wn_some g74_2_18 rfl rfl) (Rv.ds p74_2_25 (wn_some g74_2_18 rfl rfl) (Rv.dc p74_2_26 (fun W hS => (st_pick rfl rfl)) rfl Rv.dn))))))))))))))))))))))))))) ?_; clear hE a; intro a hE
   refine d_end (by kernel_rfl) ?_
   refine x_norm ?_
   refine c_cond (t := true) hE rfl ?_
   refine c_reg R74_3_l ?_
   refine q0 p74_3_0 hE (st_assign rfl) ?_; clear hE a; intro a hE
   refine p_nil (x_norm (wp_ret (x_ret ?_)))
   refine ret_one (v := Value.int .i64 0) rfl hE (.tmp rfl .nil) ?_
   exact ⟨rfl, B_gh, K_0⟩
  have dr1_3 : ∀ (g1_13 : Nat) (W : World) (a : Act), En 57 a [(0, Value.pointer (some ⟨gh, 0, none⟩)), (2, Value.int .i64 0), (3, Value.pointer (some ⟨g1_13, 0, none⟩)), (5, Value.tuple #[Value.agg #[Value.int .i64 0, Value.int .i64 0, Value.int .i64 0, Value.int .i64 0], Value.int .i64 er]), (6, Value.pointer (some ⟨gh, 0, none⟩)), (7, Value.pointer (some ⟨gh, 0, none⟩)), (8, Value.pointer (some ⟨gh, 73, none⟩)), (9, Value.pointer (some ⟨gh, 76, none⟩)), (10, RV), (11, Value.pointer (some ⟨gh, 0, none⟩)), (12, Value.pointer (some ⟨gh, 0, none⟩)), (13, Value.pointer (some ⟨gh, 77, none⟩)), (14, Value.int .i64 tg), (15, Value.tuple #[Value.agg #[Value.int .i64 0, Value.int .i64 0, Value.int .i64 0, Value.int .i64 0], Value.int .i64 er]), (16, Value.agg #[Value.int .i64 0, Value.int .i64 0, Value.int .i64 0, Value.int .i64 0]), (17, Value.int .i64 er)] → W.heap[gh]? = some (.cells (HA cl fw ln nx hp sa da true mv dn wr fa ins rk num T l.length cT nd pf rt RV tg came own least wg).toArray 96 (0, 0)) → W.heap[g1_13]? = some (.cells #[Value.int .i64 0, Value.int .i64 0, Value.int .i64 0, Value.int .i64 0] 185 (0, 0)) → g1_13 ≠ gh → w.heap.size ≤ g1_13 → Kp w W (fun k => k = gh) → wpAnyH Try.prog .any (regOf Try.f74 1) QQ (fun W => W.heap[gh]? = some (.cells (HA cl fw ln nx hp sa da true mv dn wr fa ins rk num T l.length cT nd pf rt RV tg came own least wg).toArray 96 (0, 0)) ∧ True) 2 #[κ, κ, κ, κ, κ, κ, κ, κ, κ, κ, κ, κ, κ, κ, ι, ι] a W := by
   intro g1_13 w32 a hE B_gh B_g1_13 n_g1_13_gh z_0_g1_13 K_0
   refine d_all (rs := [14]) (by kernel_rfl) rfl ?_
   refine all_cons (d_lit (listed' := #[κ, κ, κ, κ, κ, κ, κ, κ, κ, κ, κ, κ, κ, κ, κ, ι]) rfl ?_) ?_
   ·
    refine (s_store (off := 0) (k := 4) (cs' := #[Value.int .i64 0, Value.int .i64 0, Value.int .i64 0, Value.int .i64 0]) p74_1_14 hE wn_none tS185 rfl rfl rfl rfl B_g1_13 (Nat.le_of_ble_eq_true rfl) rfl ?_)
    intro w33 B_g1_13' hk
    replace B_gh := kp_blk B_gh hk (Ne.symm n_g1_13_gh)
    replace K_0 := K_0.then_ hk (fun k h => by rw [show k = g1_13 from h]; exact Or.inr z_0_g1_13)
    replace B_g1_13 := B_g1_13'
    clear hk
    refine ⟨⟨B_gh, trivial⟩, ?_⟩
    refine Rv.dq (listed' := #[κ, κ, κ, κ, κ, κ, κ, κ, κ, κ, κ, κ, κ, κ, κ, κ]) (v := Value.int .i64 er) p74_1_15 ns74_1 hE wn_none ⟨B_gh, trivial⟩ (fun W hS => (st_assign rfl)) ?_ (fun c a w h => hQ c a _ _ w h); clear hE a; intro a hE
    exact dr1_4 g1_13 _ a (En.sub hE ⟨rfl, rfl, rfl, rfl, rfl, rfl, rfl, rfl, rfl, rfl, rfl, rfl, rfl, rfl, rfl, rfl, rfl, trivial⟩) B_gh B_g1_13 n_g1_13_gh z_0_g1_13 K_0
   exact all_nil
  have dr1_2 : ∀ (W : World) (a : Act), En 57 a [(0, Value.pointer (some ⟨gh, 0, none⟩)), (2, Value.int .i64 0), (5, Value.tuple #[Value.agg #[Value.int .i64 0, Value.int .i64 0, Value.int .i64 0, Value.int .i64 0], Value.int .i64 er]), (6, Value.pointer (some ⟨gh, 0, none⟩)), (7, Value.pointer (some ⟨gh, 0, none⟩)), (8, Value.pointer (some ⟨gh, 73, none⟩)), (9, Value.pointer (some ⟨gh, 76, none⟩)), (10, RV), (11, Value.pointer (some ⟨gh, 0, none⟩)), (12, Value.pointer (some ⟨gh, 0, none⟩)), (13, Value.pointer (some ⟨gh, 77, none⟩)), (14, Value.int .i64 tg), (15, Value.tuple #[Value.agg #[Value.int .i64 0, Value.int .i64 0, Value.int .i64 0, Value.int .i64 0], Value.int .i64 er]), (16, Value.agg #[Value.int .i64 0, Value.int .i64 0, Value.int .i64 0, Value.int .i64 0]), (17, Value.int .i64 er)] → W.heap[gh]? = some (.cells (HA cl fw ln nx hp sa da true mv dn wr fa ins rk num T l.length cT nd pf rt RV tg came own least wg).toArray 96 (0, 0)) → Kp w W (fun k => k = gh) → wpAnyH Try.prog .any (regOf Try.f74 1) QQ (fun W => W.heap[gh]? = some (.cells (HA cl fw ln nx hp sa da true mv dn wr fa ins rk num T l.length cT nd pf rt RV tg came own least wg).toArray 96 (0, 0)) ∧ True) 3 #[κ, κ, κ, κ, κ, κ, κ, κ, κ, κ, κ, κ, κ, ι, ι, ι] a W := by
   intro w34 a hE B_gh K_0
   refine d_all (rs := [13]) (by kernel_rfl) rfl ?_
   refine all_cons (d_lit (listed' := #[κ, κ, κ, κ, κ, κ, κ, κ, κ, κ, κ, κ, κ, κ, ι, ι]) rfl ?_) ?_
   ·
    refine (s_alloc p74_1_13 hE wn_none rfl tZ185 ?_)
    clear hE a; intro g1_13 w35 z36 B_g1_13 hk a hE
    replace B_g1_13 : w35.heap[g1_13]? = some (.cells #[Value.int .i64 0, Value.int .i64 0, Value.int .i64 0, Value.int .i64 0] 185 (0, 0)) := B_g1_13
    have n_gh_g1_13 : gh ≠ g1_13 := ne_new B_gh z36
    have z_0_g1_13 := Nat.le_trans K_0.kept.1 z36
    replace B_gh := kp_blk B_gh hk (fun h => h)
    replace K_0 := K_0.then_ hk (fun _ h => h.elim)
    clear hk
    refine ⟨⟨B_gh, trivial⟩, ?_⟩
    have n_g1_13_gh := Ne.symm n_gh_g1_13
    exact dr1_3 g1_13 _ a (En.sub hE ⟨rfl, rfl, rfl, rfl, rfl, rfl, rfl, rfl, rfl, rfl, rfl, rfl, rfl, rfl, rfl, rfl, trivial⟩) B_gh B_g1_13 n_g1_13_gh z_0_g1_13 K_0
   exact all_nil
  have dr1_1 : ∀ (g1_13 : Nat) (W : World) (a : Act), En 57 a [(0, Value.pointer (some ⟨gh, 0, none⟩)), (2, Value.int .i64 0), (3, Value.pointer (some ⟨g1_13, 0, none⟩)), (6, Value.pointer (some ⟨gh, 0, none⟩)), (7, Value.pointer (some ⟨gh, 0, none⟩)), (8, Value.pointer (some ⟨gh, 73, none⟩)), (9, Value.pointer (some ⟨gh, 76, none⟩)), (10, RV), (11, Value.pointer (some ⟨gh, 0, none⟩)), (12, Value.pointer (some ⟨gh, 0, none⟩)), (13, Value.pointer (some ⟨gh, 77, none⟩)), (14, Value.int .i64 tg)] → W.heap[gh]? = some (.cells (HA cl fw ln nx hp sa da true mv dn wr fa ins rk num T l.length cT nd pf rt RV tg came own least wg).toArray 96 (0, 0)) → W.heap[g1_13]? = some (.cells #[Value.int .i64 0, Value.int .i64 0, Value.int .i64 0, Value.int .i64 0] 185 (0, 0)) → g1_13 ≠ gh → w.heap.size ≤ g1_13 → Kp w W (fun k => k = gh) → wpAnyH Try.prog .any (regOf Try.f74 1) QQ (fun W => W.heap[gh]? = some (.cells (HA cl fw ln nx hp sa da true mv dn wr fa ins rk num T l.length cT nd pf rt RV tg came own least wg).toArray 96 (0, 0)) ∧ True) 6 #[κ, κ, κ, κ, κ, κ, κ, κ, κ, ι, ι, ι, ι, κ, ι, ι] a W := by
   intro g1_13 w37 a hE B_gh B_g1_13 n_g1_13_gh z_0_g1_13 K_0
   refine d_all (rs := [9]) (by kernel_rfl) rfl ?_
   refine all_cons (d_lit (listed' := #[κ, κ, κ, κ, κ, κ, κ, κ, κ, κ, ι, ι, ι, κ, ι, ι]) rfl ?_) ?_
   ·
    refine (s_call (xs := [Operand.tmp 10, Operand.tmp 14]) (args := [RV, Value.int .i64 tg]) p74_1_9 hE wn_none rfl rfl Try.func111 cl111 (hT.no tg hHAS _ K_0) ?_)
    rintro e w38 ⟨rfl, hk⟩
    replace B_gh := kp_blk B_gh hk (fun h => h)
    replace B_g1_13 := kp_blk B_g1_13 hk (fun h => h)
    replace K_0 := K_0.then_ hk (fun _ h => h.elim)
    refine ⟨_, rfl, ?_⟩; clear hE a; intro a hE
    refine ⟨⟨B_gh, trivial⟩, ?_⟩
    refine Rv.dq (listed' := #[κ, κ, κ, κ, κ, κ, κ, κ, κ, κ, κ, ι, ι, κ, ι, ι]) (v := Value.tuple #[Value.agg #[Value.int .i64 0, Value.int .i64 0, Value.int .i64 0, Value.int .i64 0], Value.int .i64 er]) p74_1_10 ns74_1 hE wn_none ⟨B_gh, trivial⟩ (fun W hS => (st_move rfl)) ?_ (fun c a w h => hQ c a _ _ w h); clear hE a; intro a hE
    refine Rv.dq (listed' := #[κ, κ, κ, κ, κ, κ, κ, κ, κ, κ, κ, κ, ι, κ, ι, ι]) (v := Value.agg #[Value.int .i64 0, Value.int .i64 0, Value.int .i64 0, Value.int .i64 0]) p74_1_11 ns74_1 hE wn_none ⟨B_gh, trivial⟩ (fun W hS => (st_extract rfl rfl)) ?_ (fun c a w h => hQ c a _ _ w h); clear hE a; intro a hE
    refine Rv.dq (listed' := #[κ, κ, κ, κ, κ, κ, κ, κ, κ, κ, κ, κ, κ, κ, ι, ι]) (v := Value.int .i64 er) p74_1_12 ns74_1 hE wn_none ⟨B_gh, trivial⟩ (fun W hS => (st_extract rfl rfl)) ?_ (fun c a w h => hQ c a _ _ w h); clear hE a; intro a hE
    exact dr1_3 g1_13 _ a (En.sub hE ⟨rfl, rfl, rfl, rfl, rfl, rfl, rfl, rfl, rfl, rfl, rfl, rfl, rfl, rfl, rfl, rfl, trivial⟩) B_gh B_g1_13 n_g1_13_gh z_0_g1_13 K_0
   exact all_nil
  have dr1_0 : ∀ (W : World) (a : Act), En 57 a [(0, Value.pointer (some ⟨gh, 0, none⟩)), (2, Value.int .i64 0), (6, Value.pointer (some ⟨gh, 0, none⟩)), (7, Value.pointer (some ⟨gh, 0, none⟩)), (8, Value.pointer (some ⟨gh, 73, none⟩)), (9, Value.pointer (some ⟨gh, 76, none⟩)), (10, RV), (11, Value.pointer (some ⟨gh, 0, none⟩)), (12, Value.pointer (some ⟨gh, 0, none⟩)), (13, Value.pointer (some ⟨gh, 77, none⟩)), (14, Value.int .i64 tg)] → W.heap[gh]? = some (.cells (HA cl fw ln nx hp sa da true mv dn wr fa ins rk num T l.length cT nd pf rt RV tg came own least wg).toArray 96 (0, 0)) → Kp w W (fun k => k = gh) → wpAnyH Try.prog .any (regOf Try.f74 1) QQ (fun W => W.heap[gh]? = some (.cells (HA cl fw ln nx hp sa da true mv dn wr fa ins rk num T l.length cT nd pf rt RV tg came own least wg).toArray 96 (0, 0)) ∧ True) 7 #[κ, κ, κ, κ, κ, κ, κ, κ, κ, ι, ι, ι, ι, ι, ι, ι] a W := by
   intro w39 a hE B_gh K_0
   refine d_all (rs := [9, 13]) (by kernel_rfl) rfl ?_
   refine all_cons (d_lit (listed' := #[κ, κ, κ, κ, κ, κ, κ, κ, κ, κ, ι, ι, ι, ι, ι, ι]) rfl ?_) ?_
   ·
    refine (s_call (xs := [Operand.tmp 10, Operand.tmp 14]) (args := [RV, Value.int .i64 tg]) p74_1_9 hE wn_none rfl rfl Try.func111 cl111 (hT.no tg hHAS _ K_0) ?_)
    rintro e w40 ⟨rfl, hk⟩
    replace B_gh := kp_blk B_gh hk (fun h => h)
    replace K_0 := K_0.then_ hk (fun _ h => h.elim)
    refine ⟨_, rfl, ?_⟩; clear hE a; intro a hE
    refine ⟨⟨B_gh, trivial⟩, ?_⟩
    refine Rv.dq (listed' := #[κ, κ, κ, κ, κ, κ, κ, κ, κ, κ, κ, ι, ι, ι, ι, ι]) (v := Value.tuple #[Value.agg #[Value.int .i64 0, Value.int .i64 0, Value.int .i64 0, Value.int .i64 0], Value.int .i64 er]) p74_1_10 ns74_1 hE wn_none ⟨B_gh, trivial⟩ (fun W hS => (st_move rfl)) ?_ (fun c a w h => hQ c a _ _ w h); clear hE a; intro a hE
    refine Rv.dq (listed' := #[κ, κ, κ, κ, κ, κ, κ, κ, κ, κ, κ, κ, ι, ι, ι, ι]) (v := Value.agg #[Value.int .i64 0, Value.int .i64 0, Value.int .i64 0, Value.int .i64 0]) p74_1_11 ns74_1 hE wn_none ⟨B_gh, trivial⟩ (fun W hS => (st_extract rfl rfl)) ?_ (fun c a w h => hQ c a _ _ w h); clear hE a; intro a hE
    refine Rv.dq (listed' := #[κ, κ, κ, κ, κ, κ, κ, κ, κ, κ, κ, κ, κ, ι, ι, ι]) (v := Value.int .i64 er) p74_1_12 ns74_1 hE wn_none ⟨B_gh, trivial⟩ (fun W hS => (st_extract rfl rfl)) ?_ (fun c a w h => hQ c a _ _ w h); clear hE a; intro a hE
    exact dr1_2 _ a (En.sub hE ⟨rfl, rfl, rfl, rfl, rfl, rfl, rfl, rfl, rfl, rfl, rfl, rfl, rfl, rfl, rfl, trivial⟩) B_gh K_0
   refine all_cons (d_lit (listed' := #[κ, κ, κ, κ, κ, κ, κ, κ, κ, ι, ι, ι, ι, κ, ι, ι]) rfl ?_) ?_
   ·
    refine (s_alloc p74_1_13 hE wn_none rfl tZ185 ?_)
    clear hE a; intro g1_13 w41 z42 B_g1_13 hk a hE
    replace B_g1_13 : w41.heap[g1_13]? = some (.cells #[Value.int .i64 0, Value.int .i64 0, Value.int .i64 0, Value.int .i64 0] 185 (0, 0)) := B_g1_13
    have n_gh_g1_13 : gh ≠ g1_13 := ne_new B_gh z42
    have z_0_g1_13 := Nat.le_trans K_0.kept.1 z42
    replace B_gh := kp_blk B_gh hk (fun h => h)
    replace K_0 := K_0.then_ hk (fun _ h => h.elim)
    clear hk
    refine ⟨⟨B_gh, trivial⟩, ?_⟩
    have n_g1_13_gh := Ne.symm n_gh_g1_13
    exact dr1_1 g1_13 _ a (En.sub hE ⟨rfl, rfl, rfl, rfl, rfl, rfl, rfl, rfl, rfl, rfl, rfl, rfl, trivial⟩) B_gh B_g1_13 n_g1_13_gh z_0_g1_13 K_0
   exact all_nil
  intro w22 hh hk
  replace B_gh := kp_blk B_gh hk (fun h => h)
  replace K_0 := K_0.then_ hk (fun _ h => h.elim)
  clear hh hk
  refine Rv.dq (listed' := #[κ, ι, ι, ι, ι, ι, ι, ι, ι, ι, ι, ι, ι, ι, ι, ι]) (v := Value.pointer (some ⟨gh, 0, none⟩)) p74_1_0 ns74_1 hE wn_none ⟨B_gh, trivial⟩ (fun W hS => (st_move rfl)) ?_ (fun c a w h => hQ c a _ _ w h); clear hE a; intro a hE
  refine Rv.dq (listed' := #[κ, κ, ι, ι, ι, ι, ι, ι, ι, ι, ι, ι, ι, ι, ι, ι]) (v := Value.pointer (some ⟨gh, 0, none⟩)) p74_1_1 ns74_1 hE wn_none ⟨B_gh, trivial⟩ (fun W hS => (st_nil rfl)) ?_ (fun c a w h => hQ c a _ _ w h); clear hE a; intro a hE
  refine Rv.dq (listed' := #[κ, κ, κ, ι, ι, ι, ι, ι, ι, ι, ι, ι, ι, ι, ι, ι]) (v := Value.pointer (some ⟨gh, 73, none⟩)) p74_1_2 ns74_1 hE wn_none ⟨B_gh, trivial⟩ (fun W hS => (st_fieldAddr Try.underlying96 rfl tS41 rfl rfl)) ?_ (fun c a w h => hQ c a _ _ w h); clear hE a; intro a hE
  refine Rv.dq (listed' := #[κ, κ, κ, κ, ι, ι, ι, ι, ι, ι, ι, ι, ι, ι, ι, ι]) (v := Value.pointer (some ⟨gh, 76, none⟩)) p74_1_3 ns74_1 hE wn_none ⟨B_gh, trivial⟩ (fun W hS => (st_fieldAddr Try.underlying41 rfl tS39 rfl rfl)) ?_ (fun c a w h => hQ c a _ _ w h); clear hE a; intro a hE
  refine Rv.dq (listed' := #[κ, κ, κ, κ, κ, ι, ι, ι, ι, ι, ι, ι, ι, ι, ι, ι]) (v := RV) p74_1_4 ns74_1 hE wn_none ⟨B_gh, trivial⟩ (fun W hS => (st_load1 tA39 rfl ((blk_cell hS.1 76).trans rfl))) ?_ (fun c a w h => hQ c a _ _ w h); clear hE a; intro a hE
  refine Rv.dq (listed' := #[κ, κ, κ, κ, κ, κ, ι, ι, ι, ι, ι, ι, ι, ι, ι, ι]) (v := Value.pointer (some ⟨gh, 0, none⟩)) p74_1_5 ns74_1 hE wn_none ⟨B_gh, trivial⟩ (fun W hS => (st_move rfl)) ?_ (fun c a w h => hQ c a _ _ w h); clear hE a; intro a hE
  refine Rv.dq (listed' := #[κ, κ, κ, κ, κ, κ, κ, ι, ι, ι, ι, ι, ι, ι, ι, ι]) (v := Value.pointer (some ⟨gh, 0, none⟩)) p74_1_6 ns74_1 hE wn_none ⟨B_gh, trivial⟩ (fun W hS => (st_nil rfl)) ?_ (fun c a w h => hQ c a _ _ w h); clear hE a; intro a hE
  refine Rv.dq (listed' := #[κ, κ, κ, κ, κ, κ, κ, κ, ι, ι, ι, ι, ι, ι, ι, ι]) (v := Value.pointer (some ⟨gh, 77, none⟩)) p74_1_7 ns74_1 hE wn_none ⟨B_gh, trivial⟩ (fun W hS => (st_fieldAddr Try.underlying96 rfl tS3 rfl rfl)) ?_ (fun c a w h => hQ c a _ _ w h); clear hE a; intro a hE
  refine Rv.dq (listed' := #[κ, κ, κ, κ, κ, κ, κ, κ, κ, ι, ι, ι, ι, ι, ι, ι]) (v := Value.int .i64 tg) p74_1_8 ns74_1 hE wn_none ⟨B_gh, trivial⟩ (fun W hS => (st_load1 tA3 rfl ((blk_cell hS.1 77).trans rfl))) ?_ (fun c a w h => hQ c a _ _ w h); clear hE a; intro a hE
  exact dr1_0 _ a (En.sub hE ⟨rfl, rfl, rfl, rfl, rfl, rfl, rfl, rfl, rfl, rfl, rfl, trivial⟩) B_gh K_0
theorem hop_bad (dn wr fa : Bool) (ins rk : Int) (own least : Int) (hok : okO ins rk = true) (ho : 0 ≤ own ∧ own < 65536) (hl : 1 ≤ least ∧ least < 65536) (hb : (!consB dn rk own least && wr) = true) (w : World) : Calls Try.prog 112 #[Value.agg #[Value.bool dn, Value.bool wr, Value.bool fa, Value.int .i64 ins, Value.int .i64 rk], .int .i64 own, .int .i64 least] w fun e w' => e = .returned (.tuple #[Value.agg #[Value.bool false, Value.bool false, Value.bool false, Value.int .i64 0, Value.int .i64 0], .bool false, .int .i64 11]) ∧ Kp w w' (fun _ => False) :=
 (hop_any dn wr fa ins rk own least hok ho hl w).mono (fun e w' h => h.elim (fun h => h.2) (fun h => by rw [hb] at h; cases h.1))
theorem hop_good (dn wr fa : Bool) (ins rk : Int) (own least : Int) (hok : okO ins rk = true) (ho : 0 ≤ own ∧ own < 65536) (hl : 1 ≤ least ∧ least < 65536) (hb : (!consB dn rk own least && wr) = false) (w : World) : Calls Try.prog 112 #[Value.agg #[Value.bool dn, Value.bool wr, Value.bool fa, Value.int .i64 ins, Value.int .i64 rk], .int .i64 own, .int .i64 least] w fun e w' => e = .returned (.tuple #[Value.agg #[Value.bool dn, Value.bool (wr || !consB dn rk own least), Value.bool fa, Value.int .i64 ins, Value.int .i64 own], .bool (consB dn rk own least), .int .i64 0]) ∧ Kp w w' (fun _ => False) :=
 (hop_any dn wr fa ins rk own least hok ho hl w).mono (fun e w' h => h.elim (fun h => by rw [hb] at h; cases h.1) (fun h => h.2))
theorem R75_0_l : List.range (regOf Try.f75 0).size = [0] := by kernel_rfl
theorem R75_1_l : List.range (regOf Try.f75 1).size = [0, 1, 2, 3, 4] := by kernel_rfl
theorem R75_2_l : List.range (regOf Try.f75 2).size = [0] := by kernel_rfl
theorem R75_4_l : List.range (regOf Try.f75 4).size = [0, 1] := by kernel_rfl
theorem R75_5_l : List.range (regOf Try.f75 5).size = [0, 1] := by kernel_rfl
theorem R75_6_l : List.range (regOf Try.f75 6).size = [0, 1, 2, 3, 4, 5, 6, 7, 8, 9, 10, 11, 12] := by kernel_rfl
theorem R75_7_l : List.range (regOf Try.f75 7).size = [0] := by kernel_rfl
theorem body75 : Try.f75.body = some (.seq (.region 0 (regOf Try.f75 0) false) (.seq (.seq (.region 1 (regOf Try.f75 1) false) (.cond (Operand.tmp 10) (.seq (.region 2 (regOf Try.f75 2) false) (.ret)) (.skip))) (.seq (.region 3 (regOf Try.f75 3) true) (.seq (.seq (.region 4 (regOf Try.f75 4) false) (.cond (Operand.tmp 30) (.seq (.region 5 (regOf Try.f75 5) false) (.ret)) (.skip))) (.seq (.region 6 (regOf Try.f75 6) false) (.seq (.region 7 (regOf Try.f75 7) false) (.ret))))))) := by kernel_rfl
theorem p75_0_0 : pj (regOf Try.f75 0) 0 = some (some 2, .assign (.const (.int .i64 0)), 36, none) := by kernel_rfl
theorem P75_1 : (List.range (regOf Try.f75 1).size).map (pj (regOf Try.f75 1)) = [zz 6 (.move (.tmp 0)) 94, zz 7 (.nilCheck (.tmp 6)) 0, zz 8 (.fieldAddr 96 (.tmp 7) 3) 0, zz 9 (.load 3 (.tmp 8)) 3, zz 10 (.binOp .eql 3 (.tmp 9) (.const (.int .i64 (-1))) 3) 4] := by kernel_rfl
theorem p75_2_0 : pj (regOf Try.f75 2) 0 = some (some 2, .assign (.const (.int .i64 0)), 36, none) := by kernel_rfl
set_option maxHeartbeats 4000000 in
theorem hold_0 (cl fw ln nx hp : Int) (sa da : Nat → Int) (mv : Nat → Value) (dn wr fa : Bool) (ins rk num : Int) (T : Option Addr) (cT : Nat) (l : List Int) (nd pf : Int) (rt : Bool) (RV : Value) (tg came own least : Int) (wg : Bool) (gh : Nat) (hmv : ∀ j, (mv j).oneCell' = true) (h0 : came = -1) (w : World) (hB : w.heap[gh]? = some (.cells (HA cl fw ln nx hp sa da true mv dn wr fa ins rk num T l.length cT nd pf rt RV tg came own least wg).toArray 96 (0, 0))) (F_T : ∀ W', Kp w W' (fun k => k = gh) → Kd.C (Kd.int .u8) W' T l.length l) (hml : l.length ≤ 900000) : Calls Try.prog 75 #[Value.pointer (some ⟨gh, 0, none⟩)] w fun e w' => e = .returned (.int .i64 0) ∧ w'.heap[gh]? = some (.cells (HA cl fw ln nx hp sa da true mv dn wr fa ins rk num T l.length cT nd pf rt RV tg came own least wg).toArray 96 (0, 0)) ∧ Kp w w' (fun k => k = gh) := by
 have K_0 := Kp.refl w (fun k => k = gh)
 have B_gh := hB
 refine enter (args := [Value.pointer (some ⟨gh, 0, none⟩)]) (n := 43) Try.func75 body75 rfl rfl rfl ?_
 intro a hE
 refine c_reg R75_0_l ?_
 refine q0 p75_0_0 hE (st_assign rfl) ?_; clear hE a; intro a hE
 refine p_nil (x_norm (wp_seq (c_reg R75_1_l ?_)))
 refine qn hE (rc (pl P75_1 0) (st_move rfl) (rc (pl P75_1 1) (st_nil rfl) (rc (pl P75_1 2) (st_fieldAddr Try.underlying96 rfl tS3 rfl rfl) (rc (pl P75_1 3) (st_load1 tA3 rfl ((blk_cell B_gh 78).trans rfl)) (rc (pl P75_1 4) (st_eql (b := true) rfl rfl (decide_eq_true h0)) rn))))) ?_; clear hE a; intro a hE
 refine p_nil (x_norm ?_)
 refine c_cond (t := true) hE rfl ?_
 refine c_reg R75_2_l ?_
 refine q0 p75_2_0 hE (st_assign rfl) ?_; clear hE a; intro a hE
 refine p_nil (x_norm (wp_ret (x_ret ?_)))
 refine ret_one (v := Value.int .i64 0) rfl hE (.tmp rfl .nil) ?_
 exact ⟨rfl, B_gh, K_0⟩
theorem ns75_3 : Region.noSelect (regOf Try.f75 3) = true := by kernel_rfl
theorem p75_3_0 : pj (regOf Try.f75 3) 0 = some (some 12, .move (.tmp 0), 94, none) := by kernel_rfl
theorem p75_3_1 : pj (regOf Try.f75 3) 1 = some (some 13, .nilCheck (.tmp 12), 0, none) := by kernel_rfl
theorem p75_3_2 : pj (regOf Try.f75 3) 2 = some (some 14, .fieldAddr 96 (.tmp 13) 0, 0, none) := by kernel_rfl
theorem p75_3_3 : pj (regOf Try.f75 3) 3 = some (some 15, .fieldAddr 35 (.tmp 14) 3, 0, none) := by kernel_rfl
theorem p75_3_4 : pj (regOf Try.f75 3) 4 = some (some 16, .load 32 (.tmp 15), 32, none) := by kernel_rfl
theorem tA32 : (Try.prog.underlying 32).map aggD = some true := by kernel_rfl
theorem p75_3_5 : pj (regOf Try.f75 3) 5 = some (some 17, .move (.tmp 0), 94, none) := by kernel_rfl
theorem p75_3_6 : pj (regOf Try.f75 3) 6 = some (some 18, .nilCheck (.tmp 17), 0, none) := by kernel_rfl
theorem p75_3_7 : pj (regOf Try.f75 3) 7 = some (some 19, .fieldAddr 96 (.tmp 18) 4, 0, none) := by kernel_rfl
theorem p75_3_8 : pj (regOf Try.f75 3) 8 = some (some 20, .load 3 (.tmp 19), 3, none) := by kernel_rfl
theorem p75_3_9 : pj (regOf Try.f75 3) 9 = some (some 21, .move (.tmp 0), 94, none) := by kernel_rfl
theorem p75_3_10 : pj (regOf Try.f75 3) 10 = some (some 22, .nilCheck (.tmp 21), 0, none) := by kernel_rfl
theorem p75_3_11 : pj (regOf Try.f75 3) 11 = some (some 23, .fieldAddr 96 (.tmp 22) 5, 0, none) := by kernel_rfl
theorem p75_3_12 : pj (regOf Try.f75 3) 12 = some (some 24, .load 3 (.tmp 23), 3, none) := by kernel_rfl
theorem p75_3_13 : pj (regOf Try.f75 3) 13 = some (some 25, .call { callee := .value (.func 112), args := #[.tmp 16, .tmp 20, .tmp 24], argTypes := #[32, 3, 3] }, 188, none) := by kernel_rfl
theorem cl112 : callable Try.f112 = true := by kernel_rfl
theorem p75_3_14 : pj (regOf Try.f75 3) 14 = some (some 11, .move (.tmp 25), 188, none) := by kernel_rfl
theorem p75_3_15 : pj (regOf Try.f75 3) 15 = some (some 26, .extract (.tmp 11) 0, 32, none) := by kernel_rfl
theorem p75_3_16 : pj (regOf Try.f75 3) 16 = some (some 27, .extract (.tmp 11) 1, 4, none) := by kernel_rfl
theorem p75_3_17 : pj (regOf Try.f75 3) 17 = some (some 28, .extract (.tmp 11) 2, 36, none) := by kernel_rfl
theorem p75_3_18 : pj (regOf Try.f75 3) 18 = some (some 3, .alloc 32, 0, none) := by kernel_rfl
theorem tZ32 : (Try.prog.info? 32).bind (·.zero) = some (Value.agg #[Value.bool false, Value.bool false, Value.bool false, Value.int .i64 0, Value.int .i64 0]) := by kernel_rfl
theorem p75_3_19 : pj (regOf Try.f75 3) 19 = some (none, .store 32 (.tmp 3) (.tmp 26), 0, none) := by kernel_rfl
theorem p75_3_20 : pj (regOf Try.f75 3) 20 = some (some 4, .assign (.tmp 27), 4, none) := by kernel_rfl
theorem p75_3_21 : pj (regOf Try.f75 3) 21 = some (some 5, .assign (.tmp 28), 36, none) := by kernel_rfl
theorem P75_4 : (List.range (regOf Try.f75 4).size).map (pj (regOf Try.f75 4)) = [zz 29 (.move (.tmp 5)) 36, zz 30 (.binOp .neq 36 (.tmp 29) (.const (.int .i64 0)) 36) 4] := by kernel_rfl
theorem P75_5 : (List.range (regOf Try.f75 5).size).map (pj (regOf Try.f75 5)) = [zz 31 (.move (.tmp 5)) 36, zz 2 (.assign (.tmp 31)) 36] := by kernel_rfl
theorem P75_6 : (List.range (regOf Try.f75 6).size).map (pj (regOf Try.f75 6)) = [zz 32 (.move (.tmp 0)) 94, zz 33 (.move (.tmp 0)) 94, zz 34 (.load 32 (.tmp 3)) 32, zz 35 (.move (.tmp 4)) 4, zz 36 (.unOp .not 4 (.tmp 35)) 4, zz 37 (.nilCheck (.tmp 32)) 0, zz 38 (.fieldAddr 96 (.tmp 37) 0) 0, zz 39 (.fieldAddr 35 (.tmp 38) 3) 0, some (none, .store 32 (.tmp 39) (.tmp 34), 0, none), zz 40 (.nilCheck (.tmp 33)) 0, zz 41 (.fieldAddr 96 (.tmp 40) 6) 0, zz 42 (.fieldAddr 43 (.tmp 41) 3) 0, some (none, .store 4 (.tmp 42) (.tmp 36), 0, none)] := by kernel_rfl
theorem tS43 : (Try.prog.info? 43).map (·.size) = some 76 := by kernel_rfl
theorem p75_7_0 : pj (regOf Try.f75 7) 0 = some (some 2, .assign (.const (.int .i64 0)), 36, none) := by kernel_rfl
set_option maxHeartbeats 4000000 in
theorem hold_y (cl fw ln nx hp : Int) (sa da : Nat → Int) (mv : Nat → Value) (dn wr fa : Bool) (ins rk num : Int) (T : Option Addr) (cT : Nat) (l : List Int) (nd pf : Int) (rt : Bool) (RV : Value) (tg came own least : Int) (wg : Bool) (gh : Nat) (hmv : ∀ j, (mv j).oneCell' = true) (h0 : ¬ came = -1) (hok : okO ins rk = true) (ho : 0 ≤ own ∧ own < 65536) (hl : 1 ≤ least ∧ least < 65536) (w : World) (hB : w.heap[gh]? = some (.cells (HA cl fw ln nx hp sa da true mv dn wr fa ins rk num T l.length cT nd pf rt RV tg came own least wg).toArray 96 (0, 0))) (F_T : ∀ W', Kp w W' (fun k => k = gh) → Kd.C (Kd.int .u8) W' T l.length l) (hml : l.length ≤ 900000) : Calls Try.prog 75 #[Value.pointer (some ⟨gh, 0, none⟩)] w fun e w' => ((!consB dn rk own least && wr) = true ∧ e = .returned (.int .i64 11) ∧ w'.heap[gh]? = some (.cells (HA cl fw ln nx hp sa da true mv dn wr fa ins rk num T l.length cT nd pf rt RV tg came own least wg).toArray 96 (0, 0)) ∧ Kp w w' (fun k => k = gh)) ∨ ((!consB dn rk own least && wr) = false ∧ e = .returned (.int .i64 0) ∧ w'.heap[gh]? = some (.cells (HA cl fw ln nx hp sa da true mv dn (wr || !consB dn rk own least) fa ins own num T l.length cT nd pf rt RV tg came own least (!consB dn rk own least)).toArray 96 (0, 0)) ∧ Kp w w' (fun k => k = gh)) := by
 have K_0 := Kp.refl w (fun k => k = gh)
 have B_gh := hB
 refine enter (args := [Value.pointer (some ⟨gh, 0, none⟩)]) (n := 43) Try.func75 body75 rfl rfl rfl ?_
 intro a hE
 refine c_reg R75_0_l ?_
 refine q0 p75_0_0 hE (st_assign rfl) ?_; clear hE a; intro a hE
 refine p_nil (x_norm (wp_seq (c_reg R75_1_l ?_)))
 refine qn hE (rc (pl P75_1 0) (st_move rfl) (rc (pl P75_1 1) (st_nil rfl) (rc (pl P75_1 2) (st_fieldAddr Try.underlying96 rfl tS3 rfl rfl) (rc (pl P75_1 3) (st_load1 tA3 rfl ((blk_cell B_gh 78).trans rfl)) (rc (pl P75_1 4) (st_eql (b := false) rfl rfl (decide_eq_false h0)) rn))))) ?_; clear hE a; intro a hE
 refine p_nil (x_norm ?_)
 refine c_cond (t := false) hE rfl ?_
 refine wp_skip (x_norm ?_)
 rcases Decidable.em ((!consB dn rk own least && wr) = true) with hBAD | hBAD
 ·
  refine c_drawMS (S := fun W => W.heap[gh]? = some (.cells (HA cl fw ln nx hp sa da true mv dn wr fa ins rk num T l.length cT nd pf rt RV tg came own least wg).toArray 96 (0, 0)) ∧ True) rfl rfl (listed := #[ι, ι, ι, ι, ι, ι, ι, ι, ι, ι, ι, ι, ι, ι, ι, ι, ι, ι, ι, ι, ι, ι]) rfl pan_body (fun QQ hQ hend => ?_)
  have dr3_4 : ∀ (g3_18 : Nat) (W : World) (a : Act), En 43 a [(0, Value.pointer (some ⟨gh, 0, none⟩)), (2, Value.int .i64 0), (3, Value.pointer (some ⟨g3_18, 0, none⟩)), (4, Value.bool false), (5, Value.int .i64 11), (10, Value.bool false), (11, Value.tuple #[Value.agg #[Value.bool false, Value.bool false, Value.bool false, Value.int .i64 0, Value.int .i64 0], Value.bool false, Value.int .i64 11]), (12, Value.pointer (some ⟨gh, 0, none⟩)), (13, Value.pointer (some ⟨gh, 0, none⟩)), (14, Value.pointer (some ⟨gh, 0, none⟩)), (15, Value.pointer (some ⟨gh, 66, none⟩)), (16, Value.agg #[Value.bool dn, Value.bool wr, Value.bool fa, Value.int .i64 ins, Value.int .i64 rk]), (17, Value.pointer (some ⟨gh, 0, none⟩)), (18, Value.pointer (some ⟨gh, 0, none⟩)), (19, Value.pointer (some ⟨gh, 79, none⟩)), (20, Value.int .i64 own), (21, Value.pointer (some ⟨gh, 0, none⟩)), (22, Value.pointer (some ⟨gh, 0, none⟩)), (23, Value.pointer (some ⟨gh, 80, none⟩)), (24, Value.int .i64 least), (25, Value.tuple #[Value.agg #[Value.bool false, Value.bool false, Value.bool false, Value.int .i64 0, Value.int .i64 0], Value.bool false, Value.int .i64 11]), (26, Value.agg #[Value.bool false, Value.bool false, Value.bool false, Value.int .i64 0, Value.int .i64 0]), (27, Value.bool false), (28, Value.int .i64 11)] → W.heap[gh]? = some (.cells (HA cl fw ln nx hp sa da true mv dn wr fa ins rk num T l.length cT nd pf rt RV tg came own least wg).toArray 96 (0, 0)) → W.heap[g3_18]? = some (.cells #[Value.bool false, Value.bool false, Value.bool false, Value.int .i64 0, Value.int .i64 0] 32 (0, 0)) → g3_18 ≠ gh → w.heap.size ≤ g3_18 → Kp w W (fun k => k = gh) → wpAnyH Try.prog .any (regOf Try.f75 3) QQ (fun W => W.heap[gh]? = some (.cells (HA cl fw ln nx hp sa da true mv dn wr fa ins rk num T l.length cT nd pf rt RV tg came own least wg).toArray 96 (0, 0)) ∧ True) 0 #[κ, κ, κ, κ, κ, κ, κ, κ, κ, κ, κ, κ, κ, κ, κ, κ, κ, κ, κ, κ, κ, κ] a W := by
   intro g3_18 w9 a hE B_gh B_g3_18 n_g3_18_gh z_0_g3_18 K_0
   refine d_end (by kernel_rfl) (hend _ _ ?_)
   refine wp_seq (c_reg R75_4_l ?_)
   refine qn hE (rc (pl P75_4 0) (st_move rfl) (rc (pl P75_4 1) (st_neq (b := true) rfl rfl (by decide)) rn)) ?_; clear hE a; intro a hE
   refine p_nil (x_norm ?_)
   refine c_cond (t := true) hE rfl ?_
   refine c_reg R75_5_l ?_
   refine qn hE (rc (pl P75_5 0) (st_move rfl) (rc (pl P75_5 1) (st_assign rfl) rn)) ?_; clear hE a; intro a hE
   refine p_nil (x_norm (wp_ret (x_ret ?_)))
   refine ret_one (v := Value.int .i64 11) rfl hE (.tmp rfl .nil) ?_
   exact .inl ⟨hBAD, rfl, B_gh, K_0⟩
  have dr3_3 : ∀ (g3_18 : Nat) (W : World) (a : Act), En 43 a [(0, Value.pointer (some ⟨gh, 0, none⟩)), (2, Value.int .i64 0), (3, Value.pointer (some ⟨g3_18, 0, none⟩)), (10, Value.bool false), (11, Value.tuple #[Value.agg #[Value.bool false, Value.bool false, Value.bool false, Value.int .i64 0, Value.int .i64 0], Value.bool false, Value.int .i64 11]), (12, Value.pointer (some ⟨gh, 0, none⟩)), (13, Value.pointer (some ⟨gh, 0, none⟩)), (14, Value.pointer (some ⟨gh, 0, none⟩)), (15, Value.pointer (some ⟨gh, 66, none⟩)), (16, Value.agg #[Value.bool dn, Value.bool wr, Value.bool fa, Value.int .i64 ins, Value.int .i64 rk]), (17, Value.pointer (some ⟨gh, 0, none⟩)), (18, Value.pointer (some ⟨gh, 0, none⟩)), (19, Value.pointer (some ⟨gh, 79, none⟩)), (20, Value.int .i64 own), (21, Value.pointer (some ⟨gh, 0, none⟩)), (22, Value.pointer (some ⟨gh, 0, none⟩)), (23, Value.pointer (some ⟨gh, 80, none⟩)), (24, Value.int .i64 least), (25, Value.tuple #[Value.agg #[Value.bool false, Value.bool false, Value.bool false, Value.int .i64 0, Value.int .i64 0], Value.bool false, Value.int .i64 11]), (26, Value.agg #[Value.bool false, Value.bool false, Value.bool false, Value.int .i64 0, Value.int .i64 0]), (27, Value.bool false), (28, Value.int .i64 11)] → W.heap[gh]? = some (.cells (HA cl fw ln nx hp sa da true mv dn wr fa ins rk num T l.length cT nd pf rt RV tg came own least wg).toArray 96 (0, 0)) → W.heap[g3_18]? = some (.cells #[Value.bool false, Value.bool false, Value.bool false, Value.int .i64 0, Value.int .i64 0] 32 (0, 0)) → g3_18 ≠ gh → w.heap.size ≤ g3_18 → Kp w W (fun k => k = gh) → wpAnyH Try.prog .any (regOf Try.f75 3) QQ (fun W => W.heap[gh]? = some (.cells (HA cl fw ln nx hp sa da true mv dn wr fa ins rk num T l.length cT nd pf rt RV tg came own least wg).toArray 96 (0, 0)) ∧ True) 3 #[κ, κ, κ, κ, κ, κ, κ, κ, κ, κ, κ, κ, κ, κ, κ, κ, κ, κ, κ, ι, ι, ι] a W := by
   intro g3_18 w10 a hE B_gh B_g3_18 n_g3_18_gh z_0_g3_18 K_0
   refine d_all (rs := [19]) (by kernel_rfl) rfl ?_
   refine all_cons (d_lit (listed' := #[κ, κ, κ, κ, κ, κ, κ, κ, κ, κ, κ, κ, κ, κ, κ, κ, κ, κ, κ, κ, ι, ι]) rfl ?_) ?_
   ·
    refine (s_store (off := 0) (k := 5) (cs' := #[Value.bool false, Value.bool false, Value.bool false, Value.int .i64 0, Value.int .i64 0]) p75_3_19 hE wn_none tS32 rfl rfl rfl rfl B_g3_18 (Nat.le_of_ble_eq_true rfl) rfl ?_)
    intro w11 B_g3_18' hk
    replace B_gh := kp_blk B_gh hk (Ne.symm n_g3_18_gh)
    replace K_0 := K_0.then_ hk (fun k h => by rw [show k = g3_18 from h]; exact Or.inr z_0_g3_18)
    replace B_g3_18 := B_g3_18'
    clear hk
    refine ⟨⟨B_gh, trivial⟩, ?_⟩
    refine Rv.dq (listed' := #[κ, κ, κ, κ, κ, κ, κ, κ, κ, κ, κ, κ, κ, κ, κ, κ, κ, κ, κ, κ, κ, ι]) (v := Value.bool false) p75_3_20 ns75_3 hE wn_none ⟨B_gh, trivial⟩ (fun W hS => (st_assign rfl)) ?_ (fun c a w h => hQ c a _ _ w h); clear hE a; intro a hE
    refine Rv.dq (listed' := #[κ, κ, κ, κ, κ, κ, κ, κ, κ, κ, κ, κ, κ, κ, κ, κ, κ, κ, κ, κ, κ, κ]) (v := Value.int .i64 11) p75_3_21 ns75_3 hE wn_none ⟨B_gh, trivial⟩ (fun W hS => (st_assign rfl)) ?_ (fun c a w h => hQ c a _ _ w h); clear hE a; intro a hE
    exact dr3_4 g3_18 _ a (En.sub hE ⟨rfl, rfl, rfl, rfl, rfl, rfl, rfl, rfl, rfl, rfl, rfl, rfl, rfl, rfl, rfl, rfl, rfl, rfl, rfl, rfl, rfl, rfl, rfl, rfl, trivial⟩) B_gh B_g3_18 n_g3_18_gh z_0_g3_18 K_0
   exact all_nil
  have dr3_2 : ∀ (W : World) (a : Act), En 43 a [(0, Value.pointer (some ⟨gh, 0, none⟩)), (2, Value.int .i64 0), (10, Value.bool false), (11, Value.tuple #[Value.agg #[Value.bool false, Value.bool false, Value.bool false, Value.int .i64 0, Value.int .i64 0], Value.bool false, Value.int .i64 11]), (12, Value.pointer (some ⟨gh, 0, none⟩)), (13, Value.pointer (some ⟨gh, 0, none⟩)), (14, Value.pointer (some ⟨gh, 0, none⟩)), (15, Value.pointer (some ⟨gh, 66, none⟩)), (16, Value.agg #[Value.bool dn, Value.bool wr, Value.bool fa, Value.int .i64 ins, Value.int .i64 rk]), (17, Value.pointer (some ⟨gh, 0, none⟩)), (18, Value.pointer (some ⟨gh, 0, none⟩)), (19, Value.pointer (some ⟨gh, 79, none⟩)), (20, Value.int .i64 own), (21, Value.pointer (some ⟨gh, 0, none⟩)), (22, Value.pointer (some ⟨gh, 0, none⟩)), (23, Value.pointer (some ⟨gh, 80, none⟩)), (24, Value.int .i64 least), (25, Value.tuple #[Value.agg #[Value.bool false, Value.bool false, Value.bool false, Value.int .i64 0, Value.int .i64 0], Value.bool false, Value.int .i64 11]), (26, Value.agg #[Value.bool false, Value.bool false, Value.bool false, Value.int .i64 0, Value.int .i64 0]), (27, Value.bool false), (28, Value.int .i64 11)] → W.heap[gh]? = some (.cells (HA cl fw ln nx hp sa da true mv dn wr fa ins rk num T l.length cT nd pf rt RV tg came own least wg).toArray 96 (0, 0)) → Kp w W (fun k => k = gh) → wpAnyH Try.prog .any (regOf Try.f75 3) QQ (fun W => W.heap[gh]? = some (.cells (HA cl fw ln nx hp sa da true mv dn wr fa ins rk num T l.length cT nd pf rt RV tg came own least wg).toArray 96 (0, 0)) ∧ True) 4 #[κ, κ, κ, κ, κ, κ, κ, κ, κ, κ, κ, κ, κ, κ, κ, κ, κ, κ, ι, ι, ι, ι] a W := by
   intro w12 a hE B_gh K_0
   refine d_all (rs := [18]) (by kernel_rfl) rfl ?_
   refine all_cons (d_lit (listed' := #[κ, κ, κ, κ, κ, κ, κ, κ, κ, κ, κ, κ, κ, κ, κ, κ, κ, κ, κ, ι, ι, ι]) rfl ?_) ?_
   ·
    refine (s_alloc p75_3_18 hE wn_none rfl tZ32 ?_)
    clear hE a; intro g3_18 w13 z14 B_g3_18 hk a hE
    replace B_g3_18 : w13.heap[g3_18]? = some (.cells #[Value.bool false, Value.bool false, Value.bool false, Value.int .i64 0, Value.int .i64 0] 32 (0, 0)) := B_g3_18
    have n_gh_g3_18 : gh ≠ g3_18 := ne_new B_gh z14
    have z_0_g3_18 := Nat.le_trans K_0.kept.1 z14
    replace B_gh := kp_blk B_gh hk (fun h => h)
    replace K_0 := K_0.then_ hk (fun _ h => h.elim)
    clear hk
    refine ⟨⟨B_gh, trivial⟩, ?_⟩
    have n_g3_18_gh := Ne.symm n_gh_g3_18
    exact dr3_3 g3_18 _ a (En.sub hE ⟨rfl, rfl, rfl, rfl, rfl, rfl, rfl, rfl, rfl, rfl, rfl, rfl, rfl, rfl, rfl, rfl, rfl, rfl, rfl, rfl, rfl, rfl, trivial⟩) B_gh B_g3_18 n_g3_18_gh z_0_g3_18 K_0
   exact all_nil
  have dr3_1 : ∀ (g3_18 : Nat) (W : World) (a : Act), En 43 a [(0, Value.pointer (some ⟨gh, 0, none⟩)), (2, Value.int .i64 0), (3, Value.pointer (some ⟨g3_18, 0, none⟩)), (10, Value.bool false), (12, Value.pointer (some ⟨gh, 0, none⟩)), (13, Value.pointer (some ⟨gh, 0, none⟩)), (14, Value.pointer (some ⟨gh, 0, none⟩)), (15, Value.pointer (some ⟨gh, 66, none⟩)), (16, Value.agg #[Value.bool dn, Value.bool wr, Value.bool fa, Value.int .i64 ins, Value.int .i64 rk]), (17, Value.pointer (some ⟨gh, 0, none⟩)), (18, Value.pointer (some ⟨gh, 0, none⟩)), (19, Value.pointer (some ⟨gh, 79, none⟩)), (20, Value.int .i64 own), (21, Value.pointer (some ⟨gh, 0, none⟩)), (22, Value.pointer (some ⟨gh, 0, none⟩)), (23, Value.pointer (some ⟨gh, 80, none⟩)), (24, Value.int .i64 least)] → W.heap[gh]? = some (.cells (HA cl fw ln nx hp sa da true mv dn wr fa ins rk num T l.length cT nd pf rt RV tg came own least wg).toArray 96 (0, 0)) → W.heap[g3_18]? = some (.cells #[Value.bool false, Value.bool false, Value.bool false, Value.int .i64 0, Value.int .i64 0] 32 (0, 0)) → g3_18 ≠ gh → w.heap.size ≤ g3_18 → Kp w W (fun k => k = gh) → wpAnyH Try.prog .any (regOf Try.f75 3) QQ (fun W => W.heap[gh]? = some (.cells (HA cl fw ln nx hp sa da true mv dn wr fa ins rk num T l.length cT nd pf rt RV tg came own least wg).toArray 96 (0, 0)) ∧ True) 8 #[κ, κ, κ, κ, κ, κ, κ, κ, κ, κ, κ, κ, κ, ι, ι, ι, ι, ι, κ, ι, ι, ι] a W := by
   intro g3_18 w15 a hE B_gh B_g3_18 n_g3_18_gh z_0_g3_18 K_0
   refine d_all (rs := [13]) (by kernel_rfl) rfl ?_
   refine all_cons (d_lit (listed' := #[κ, κ, κ, κ, κ, κ, κ, κ, κ, κ, κ, κ, κ, κ, ι, ι, ι, ι, κ, ι, ι, ι]) rfl ?_) ?_
   ·
    refine (s_call (xs := [Operand.tmp 16, Operand.tmp 20, Operand.tmp 24]) (args := [Value.agg #[Value.bool dn, Value.bool wr, Value.bool fa, Value.int .i64 ins, Value.int .i64 rk], Value.int .i64 own, Value.int .i64 least]) p75_3_13 hE wn_none rfl rfl Try.func112 cl112 (hop_bad dn wr fa ins rk own least hok ho hl hBAD _) ?_)
    rintro e w16 ⟨rfl, hk⟩
    replace B_gh := kp_blk B_gh hk (fun h => h)
    replace B_g3_18 := kp_blk B_g3_18 hk (fun h => h)
    replace K_0 := K_0.then_ hk (fun _ h => h.elim)
    refine ⟨_, rfl, ?_⟩; clear hE a; intro a hE
    refine ⟨⟨B_gh, trivial⟩, ?_⟩
    refine Rv.dq (listed' := #[κ, κ, κ, κ, κ, κ, κ, κ, κ, κ, κ, κ, κ, κ, κ, ι, ι, ι, κ, ι, ι, ι]) (v := Value.tuple #[Value.agg #[Value.bool false, Value.bool false, Value.bool false, Value.int .i64 0, Value.int .i64 0], Value.bool false, Value.int .i64 11]) p75_3_14 ns75_3 hE wn_none ⟨B_gh, trivial⟩ (fun W hS => (st_move rfl)) ?_ (fun c a w h => hQ c a _ _ w h); clear hE a; intro a hE
    refine Rv.dq (listed' := #[κ, κ, κ, κ, κ, κ, κ, κ, κ, κ, κ, κ, κ, κ, κ, κ, ι, ι, κ, ι, ι, ι]) (v := Value.agg #[Value.bool false, Value.bool false, Value.bool false, Value.int .i64 0, Value.int .i64 0]) p75_3_15 ns75_3 hE wn_none ⟨B_gh, trivial⟩ (fun W hS => (st_extract rfl rfl)) ?_ (fun c a w h => hQ c a _ _ w h); clear hE a; intro a hE
    refine Rv.dq (listed' := #[κ, κ, κ, κ, κ, κ, κ, κ, κ, κ, κ, κ, κ, κ, κ, κ, κ, ι, κ, ι, ι, ι]) (v := Value.bool false) p75_3_16 ns75_3 hE wn_none ⟨B_gh, trivial⟩ (fun W hS => (st_extract rfl rfl)) ?_ (fun c a w h => hQ c a _ _ w h); clear hE a; intro a hE
    refine Rv.dq (listed' := #[κ, κ, κ, κ, κ, κ, κ, κ, κ, κ, κ, κ, κ, κ, κ, κ, κ, κ, κ, ι, ι, ι]) (v := Value.int .i64 11) p75_3_17 ns75_3 hE wn_none ⟨B_gh, trivial⟩ (fun W hS => (st_extract rfl rfl)) ?_ (fun c a w h => hQ c a _ _ w h); clear hE a; intro a hE
    exact dr3_3 g3_18 _ a (En.sub hE ⟨rfl, rfl, rfl, rfl, rfl, rfl, rfl, rfl, rfl, rfl, rfl, rfl, rfl, rfl, rfl, rfl, rfl, rfl, rfl, rfl, rfl, rfl, trivial⟩) B_gh B_g3_18 n_g3_18_gh z_0_g3_18 K_0
   exact all_nil
  have dr3_0 : ∀ (W : World) (a : Act), En 43 a [(0, Value.pointer (some ⟨gh, 0, none⟩)), (2, Value.int .i64 0), (10, Value.bool false), (12, Value.pointer (some ⟨gh, 0, none⟩)), (13, Value.pointer (some ⟨gh, 0, none⟩)), (14, Value.pointer (some ⟨gh, 0, none⟩)), (15, Value.pointer (some ⟨gh, 66, none⟩)), (16, Value.agg #[Value.bool dn, Value.bool wr, Value.bool fa, Value.int .i64 ins, Value.int .i64 rk]), (17, Value.pointer (some ⟨gh, 0, none⟩)), (18, Value.pointer (some ⟨gh, 0, none⟩)), (19, Value.pointer (some ⟨gh, 79, none⟩)), (20, Value.int .i64 own), (21, Value.pointer (some ⟨gh, 0, none⟩)), (22, Value.pointer (some ⟨gh, 0, none⟩)), (23, Value.pointer (some ⟨gh, 80, none⟩)), (24, Value.int .i64 least)] → W.heap[gh]? = some (.cells (HA cl fw ln nx hp sa da true mv dn wr fa ins rk num T l.length cT nd pf rt RV tg came own least wg).toArray 96 (0, 0)) → Kp w W (fun k => k = gh) → wpAnyH Try.prog .any (regOf Try.f75 3) QQ (fun W => W.heap[gh]? = some (.cells (HA cl fw ln nx hp sa da true mv dn wr fa ins rk num T l.length cT nd pf rt RV tg came own least wg).toArray 96 (0, 0)) ∧ True) 9 #[κ, κ, κ, κ, κ, κ, κ, κ, κ, κ, κ, κ, κ, ι, ι, ι, ι, ι, ι, ι, ι, ι] a W := by
   intro w17 a hE B_gh K_0
   refine d_all (rs := [13, 18]) (by kernel_rfl) rfl ?_
   refine all_cons (d_lit (listed' := #[κ, κ, κ, κ, κ, κ, κ, κ, κ, κ, κ, κ, κ, κ, ι, ι, ι, ι, ι, ι, ι, ι]) rfl ?_) ?_
   ·
    refine (s_call (xs := [Operand.tmp 16, Operand.tmp 20, Operand.tmp 24]) (args := [Value.agg #[Value.bool dn, Value.bool wr, Value.bool fa, Value.int .i64 ins, Value.int .i64 rk], Value.int .i64 own, Value.int .i64 least]) p75_3_13 hE wn_none rfl rfl Try.func112 cl112 (hop_bad dn wr fa ins rk own least hok ho hl hBAD _) ?_)
    rintro e w18 ⟨rfl, hk⟩
    replace B_gh := kp_blk B_gh hk (fun h => h)
    replace K_0 := K_0.then_ hk (fun _ h => h.elim)
    refine ⟨_, rfl, ?_⟩; clear hE a; intro a hE
    refine ⟨⟨B_gh, trivial⟩, ?_⟩
    refine Rv.dq (listed' := #[κ, κ, κ, κ, κ, κ, κ, κ, κ, κ, κ, κ, κ, κ, κ, ι, ι, ι, ι, ι, ι, ι]) (v := Value.tuple #[Value.agg #[Value.bool false, Value.bool false, Value.bool false, Value.int .i64 0, Value.int .i64 0], Value.bool false, Value.int .i64 11]) p75_3_14 ns75_3 hE wn_none ⟨B_gh, trivial⟩ (fun W hS => (st_move rfl)) ?_ (fun c a w h => hQ c a _ _ w h); clear hE a; intro a hE
    refine Rv.dq (listed' := #[κ, κ, κ, κ, κ, κ, κ, κ, κ, κ, κ, κ, κ, κ, κ, κ, ι, ι, ι, ι, ι, ι]) (v := Value.agg #[Value.bool false, Value.bool false, Value.bool false, Value.int .i64 0, Value.int .i64 0]) p75_3_15 ns75_3 hE wn_none ⟨B_gh, trivial⟩ (fun W hS => (st_extract rfl rfl)) ?_ (fun c a w h => hQ c a _ _ w h); clear hE a; intro a hE
    refine Rv.dq (listed' := #[κ, κ, κ, κ, κ, κ, κ, κ, κ, κ, κ, κ, κ, κ, κ, κ, κ, ι, ι, ι, ι, ι]) (v := Value.bool false) p75_3_16 ns75_3 hE wn_none ⟨B_gh, trivial⟩ (fun W hS => (st_extract rfl rfl)) ?_ (fun c a w h => hQ c a _ _ w h); clear hE a; intro a hE
    refine Rv.dq (listed' := #[κ, κ, κ, κ, κ, κ, κ, κ, κ, κ, κ, κ, κ, κ, κ, κ, κ, κ, ι, ι, ι, ι]) (v := Value.int .i64 11) p75_3_17 ns75_3 hE wn_none ⟨B_gh, trivial⟩ (fun W hS => (st_extract rfl rfl)) ?_ (fun c a w h => hQ c a _ _ w h); clear hE a; intro a hE
    exact dr3_2 _ a (En.sub hE ⟨rfl, rfl, rfl, rfl, rfl, rfl, rfl, rfl, rfl, rfl, rfl, rfl, rfl, rfl, rfl, rfl, rfl, rfl, rfl, rfl, rfl, trivial⟩) B_gh K_0
   refine all_cons (d_lit (listed' := #[κ, κ, κ, κ, κ, κ, κ, κ, κ, κ, κ, κ, κ, ι, ι, ι, ι, ι, κ, ι, ι, ι]) rfl ?_) ?_
   ·
    refine (s_alloc p75_3_18 hE wn_none rfl tZ32 ?_)
    clear hE a; intro g3_18 w19 z20 B_g3_18 hk a hE
    replace B_g3_18 : w19.heap[g3_18]? = some (.cells #[Value.bool false, Value.bool false, Value.bool false, Value.int .i64 0, Value.int .i64 0] 32 (0, 0)) := B_g3_18
    have n_gh_g3_18 : gh ≠ g3_18 := ne_new B_gh z20
    have z_0_g3_18 := Nat.le_trans K_0.kept.1 z20
    replace B_gh := kp_blk B_gh hk (fun h => h)
    replace K_0 := K_0.then_ hk (fun _ h => h.elim)
    clear hk
    refine ⟨⟨B_gh, trivial⟩, ?_⟩
    have n_g3_18_gh := Ne.symm n_gh_g3_18
    exact dr3_1 g3_18 _ a (En.sub hE ⟨rfl, rfl, rfl, rfl, rfl, rfl, rfl, rfl, rfl, rfl, rfl, rfl, rfl, rfl, rfl, rfl, rfl, trivial⟩) B_gh B_g3_18 n_g3_18_gh z_0_g3_18 K_0
   exact all_nil
  intro w1 hh hk
  replace B_gh := kp_blk B_gh hk (fun h => h)
  replace K_0 := K_0.then_ hk (fun _ h => h.elim)
  clear hh hk
  refine Rv.dq (listed' := #[κ, ι, ι, ι, ι, ι, ι, ι, ι, ι, ι, ι, ι, ι, ι, ι, ι, ι, ι, ι, ι, ι]) (v := Value.pointer (some ⟨gh, 0, none⟩)) p75_3_0 ns75_3 hE wn_none ⟨B_gh, trivial⟩ (fun W hS => (st_move rfl)) ?_ (fun c a w h => hQ c a _ _ w h); clear hE a; intro a hE
  refine Rv.dq (listed' := #[κ, κ, ι, ι, ι, ι, ι, ι, ι, ι, ι, ι, ι, ι, ι, ι, ι, ι, ι, ι, ι, ι]) (v := Value.pointer (some ⟨gh, 0, none⟩)) p75_3_1 ns75_3 hE wn_none ⟨B_gh, trivial⟩ (fun W hS => (st_nil rfl)) ?_ (fun c a w h => hQ c a _ _ w h); clear hE a; intro a hE
  refine Rv.dq (listed' := #[κ, κ, κ, ι, ι, ι, ι, ι, ι, ι, ι, ι, ι, ι, ι, ι, ι, ι, ι, ι, ι, ι]) (v := Value.pointer (some ⟨gh, 0, none⟩)) p75_3_2 ns75_3 hE wn_none ⟨B_gh, trivial⟩ (fun W hS => (st_fieldAddr Try.underlying96 rfl tS35 rfl rfl)) ?_ (fun c a w h => hQ c a _ _ w h); clear hE a; intro a hE
  refine Rv.dq (listed' := #[κ, κ, κ, κ, ι, ι, ι, ι, ι, ι, ι, ι, ι, ι, ι, ι, ι, ι, ι, ι, ι, ι]) (v := Value.pointer (some ⟨gh, 66, none⟩)) p75_3_3 ns75_3 hE wn_none ⟨B_gh, trivial⟩ (fun W hS => (st_fieldAddr Try.underlying35 rfl tS32 rfl rfl)) ?_ (fun c a w h => hQ c a _ _ w h); clear hE a; intro a hE
  refine Rv.dq (listed' := #[κ, κ, κ, κ, κ, ι, ι, ι, ι, ι, ι, ι, ι, ι, ι, ι, ι, ι, ι, ι, ι, ι]) (v := Value.agg #[Value.bool dn, Value.bool wr, Value.bool fa, Value.int .i64 ins, Value.int .i64 rk]) p75_3_4 ns75_3 hE wn_none ⟨B_gh, trivial⟩ (fun W hS => (st_loadN (off := 66) (k := 5) (vs := [Value.bool dn, Value.bool wr, Value.bool fa, Value.int .i64 ins, Value.int .i64 rk]) tA32 tS32 rfl hS.1 rfl rfl)) ?_ (fun c a w h => hQ c a _ _ w h); clear hE a; intro a hE
  refine Rv.dq (listed' := #[κ, κ, κ, κ, κ, κ, ι, ι, ι, ι, ι, ι, ι, ι, ι, ι, ι, ι, ι, ι, ι, ι]) (v := Value.pointer (some ⟨gh, 0, none⟩)) p75_3_5 ns75_3 hE wn_none ⟨B_gh, trivial⟩ (fun W hS => (st_move rfl)) ?_ (fun c a w h => hQ c a _ _ w h); clear hE a; intro a hE
  refine Rv.dq (listed' := #[κ, κ, κ, κ, κ, κ, κ, ι, ι, ι, ι, ι, ι, ι, ι, ι, ι, ι, ι, ι, ι, ι]) (v := Value.pointer (some ⟨gh, 0, none⟩)) p75_3_6 ns75_3 hE wn_none ⟨B_gh, trivial⟩ (fun W hS => (st_nil rfl)) ?_ (fun c a w h => hQ c a _ _ w h); clear hE a; intro a hE
  refine Rv.dq (listed' := #[κ, κ, κ, κ, κ, κ, κ, κ, ι, ι, ι, ι, ι, ι, ι, ι, ι, ι, ι, ι, ι, ι]) (v := Value.pointer (some ⟨gh, 79, none⟩)) p75_3_7 ns75_3 hE wn_none ⟨B_gh, trivial⟩ (fun W hS => (st_fieldAddr Try.underlying96 rfl tS3 rfl rfl)) ?_ (fun c a w h => hQ c a _ _ w h); clear hE a; intro a hE
  refine Rv.dq (listed' := #[κ, κ, κ, κ, κ, κ, κ, κ, κ, ι, ι, ι, ι, ι, ι, ι, ι, ι, ι, ι, ι, ι]) (v := Value.int .i64 own) p75_3_8 ns75_3 hE wn_none ⟨B_gh, trivial⟩ (fun W hS => (st_load1 tA3 rfl ((blk_cell hS.1 79).trans rfl))) ?_ (fun c a w h => hQ c a _ _ w h); clear hE a; intro a hE
  refine Rv.dq (listed' := #[κ, κ, κ, κ, κ, κ, κ, κ, κ, κ, ι, ι, ι, ι, ι, ι, ι, ι, ι, ι, ι, ι]) (v := Value.pointer (some ⟨gh, 0, none⟩)) p75_3_9 ns75_3 hE wn_none ⟨B_gh, trivial⟩ (fun W hS => (st_move rfl)) ?_ (fun c a w h => hQ c a _ _ w h); clear hE a; intro a hE
  refine Rv.dq (listed' := #[κ, κ, κ, κ, κ, κ, κ, κ, κ, κ, κ, ι, ι, ι, ι, ι, ι, ι, ι, ι, ι, ι]) (v := Value.pointer (some ⟨gh, 0, none⟩)) p75_3_10 ns75_3 hE wn_none ⟨B_gh, trivial⟩ (fun W hS => (st_nil rfl)) ?_ (fun c a w h => hQ c a _ _ w h); clear hE a; intro a hE
  refine Rv.dq (listed' := #[κ, κ, κ, κ, κ, κ, κ, κ, κ, κ, κ, κ, ι, ι, ι, ι, ι, ι, ι, ι, ι, ι]) (v := Value.pointer (some ⟨gh, 80, none⟩)) p75_3_11 ns75_3 hE wn_none ⟨B_gh, trivial⟩ (fun W hS => (st_fieldAddr Try.underlying96 rfl tS3 rfl rfl)) ?_ (fun c a w h => hQ c a _ _ w h); clear hE a; intro a hE
  refine Rv.dq (listed' := #[κ, κ, κ, κ, κ, κ, κ, κ, κ, κ, κ, κ, κ, ι, ι, ι, ι, ι, ι, ι, ι, ι]) (v := Value.int .i64 least) p75_3_12 ns75_3 hE wn_none ⟨B_gh, trivial⟩ (fun W hS => (st_load1 tA3 rfl ((blk_cell hS.1 80).trans rfl))) ?_ (fun c a w h => hQ c a _ _ w h); clear hE a; intro a hE
  exact dr3_0 _ a (En.sub hE ⟨rfl, rfl, rfl, rfl, rfl, rfl, rfl, rfl, rfl, rfl, rfl, rfl, rfl, rfl, rfl, rfl, trivial⟩) B_gh K_0
 ·
  refine c_drawMS (S := fun W => W.heap[gh]? = some (.cells (HA cl fw ln nx hp sa da true mv dn wr fa ins rk num T l.length cT nd pf rt RV tg came own least wg).toArray 96 (0, 0)) ∧ True) rfl rfl (listed := #[ι, ι, ι, ι, ι, ι, ι, ι, ι, ι, ι, ι, ι, ι, ι, ι, ι, ι, ι, ι, ι, ι]) rfl pan_body (fun QQ hQ hend => ?_)
  have dr3_4 : ∀ (g3_18 : Nat) (W : World) (a : Act), En 43 a [(0, Value.pointer (some ⟨gh, 0, none⟩)), (2, Value.int .i64 0), (3, Value.pointer (some ⟨g3_18, 0, none⟩)), (4, Value.bool (consB dn rk own least)), (5, Value.int .i64 0), (10, Value.bool false), (11, Value.tuple #[Value.agg #[Value.bool dn, Value.bool (wr || !consB dn rk own least), Value.bool fa, Value.int .i64 ins, Value.int .i64 own], Value.bool (consB dn rk own least), Value.int .i64 0]), (12, Value.pointer (some ⟨gh, 0, none⟩)), (13, Value.pointer (some ⟨gh, 0, none⟩)), (14, Value.pointer (some ⟨gh, 0, none⟩)), (15, Value.pointer (some ⟨gh, 66, none⟩)), (16, Value.agg #[Value.bool dn, Value.bool wr, Value.bool fa, Value.int .i64 ins, Value.int .i64 rk]), (17, Value.pointer (some ⟨gh, 0, none⟩)), (18, Value.pointer (some ⟨gh, 0, none⟩)), (19, Value.pointer (some ⟨gh, 79, none⟩)), (20, Value.int .i64 own), (21, Value.pointer (some ⟨gh, 0, none⟩)), (22, Value.pointer (some ⟨gh, 0, none⟩)), (23, Value.pointer (some ⟨gh, 80, none⟩)), (24, Value.int .i64 least), (25, Value.tuple #[Value.agg #[Value.bool dn, Value.bool (wr || !consB dn rk own least), Value.bool fa, Value.int .i64 ins, Value.int .i64 own], Value.bool (consB dn rk own least), Value.int .i64 0]), (26, Value.agg #[Value.bool dn, Value.bool (wr || !consB dn rk own least), Value.bool fa, Value.int .i64 ins, Value.int .i64 own]), (27, Value.bool (consB dn rk own least)), (28, Value.int .i64 0)] → W.heap[gh]? = some (.cells (HA cl fw ln nx hp sa da true mv dn wr fa ins rk num T l.length cT nd pf rt RV tg came own least wg).toArray 96 (0, 0)) → W.heap[g3_18]? = some (.cells #[Value.bool dn, Value.bool (wr || !consB dn rk own least), Value.bool fa, Value.int .i64 ins, Value.int .i64 own] 32 (0, 0)) → g3_18 ≠ gh → w.heap.size ≤ g3_18 → Kp w W (fun k => k = gh) → wpAnyH Try.prog .any (regOf Try.f75 3) QQ (fun W => W.heap[gh]? = some (.cells (HA cl fw ln nx hp sa da true mv dn wr fa ins rk num T l.length cT nd pf rt RV tg came own least wg).toArray 96 (0, 0)) ∧ True) 0 #[κ, κ, κ, κ, κ, κ, κ, κ, κ, κ, κ, κ, κ, κ, κ, κ, κ, κ, κ, κ, κ, κ] a W := by
   intro g3_18 w29 a hE B_gh B_g3_18 n_g3_18_gh z_0_g3_18 K_0
   refine d_end (by kernel_rfl) (hend _ _ ?_)
   refine wp_seq (c_reg R75_4_l ?_)
   refine qn hE (rc (pl P75_4 0) (st_move rfl) (rc (pl P75_4 1) (st_neq (b := false) rfl rfl (by decide)) rn)) ?_; clear hE a; intro a hE
   refine p_nil (x_norm ?_)
   refine c_cond (t := false) hE rfl ?_
   refine wp_skip (x_norm (c_reg R75_6_l ?_))
   refine qn hE (rc (pl P75_6 0) (st_move rfl) (rc (pl P75_6 1) (st_move rfl) (rc (pl P75_6 2) (st_loadN (off := 0) (k := 5) (vs := [Value.bool dn, Value.bool (wr || !consB dn rk own least), Value.bool fa, Value.int .i64 ins, Value.int .i64 own]) tA32 tS32 rfl B_g3_18 rfl rfl) (rc (pl P75_6 3) (st_move rfl) (rc (pl P75_6 4) (st_not rfl rfl) (rc (pl P75_6 5) (st_nil rfl) (rc (pl P75_6 6) (st_fieldAddr Try.underlying96 rfl tS35 rfl rfl) (rc (pl P75_6 7) (st_fieldAddr Try.underlying35 rfl tS32 rfl rfl) rn)))))))) ?_; clear hE a; intro a hE
   refine p_cons (s_store (off := 66) (k := 5) (cs' := (HA cl fw ln nx hp sa da true mv dn (wr || !consB dn rk own least) fa ins own num T l.length cT nd pf rt RV tg came own least wg).toArray) (pl P75_6 8) hE wn_none tS32 rfl rfl rfl rfl B_gh (Nat.le_of_ble_eq_true rfl) rfl ?_)
   intro w30 B_gh' hk
   replace B_g3_18 := kp_blk B_g3_18 hk n_g3_18_gh
   replace K_0 := K_0.then_ hk (fun k h => by rw [show k = gh from h]; exact Or.inl rfl)
   replace B_gh := B_gh'
   clear hk
   refine qn hE (rc (pl P75_6 9) (st_nil rfl) (rc (pl P75_6 10) (st_fieldAddr Try.underlying96 rfl tS43 rfl rfl) (rc (pl P75_6 11) (st_fieldAddr Try.underlying43 rfl tS4 rfl rfl) rn))) ?_; clear hE a; intro a hE
   refine p_cons (s_store (off := 156) (k := 1) (cs' := (HA cl fw ln nx hp sa da true mv dn (wr || !consB dn rk own least) fa ins own num T l.length cT nd pf rt RV tg came own least (!(consB dn rk own least))).toArray) (pl P75_6 12) hE wn_none tS4 rfl rfl rfl rfl B_gh (Nat.le_of_ble_eq_true rfl) rfl ?_)
   intro w31 B_gh' hk
   replace B_g3_18 := kp_blk B_g3_18 hk n_g3_18_gh
   replace K_0 := K_0.then_ hk (fun k h => by rw [show k = gh from h]; exact Or.inl rfl)
   replace B_gh := B_gh'
   clear hk
   refine p_nil (x_norm (c_reg R75_7_l ?_))
   refine q0 p75_7_0 hE (st_assign rfl) ?_; clear hE a; intro a hE
   refine p_nil (x_norm (wp_ret ?_))
   refine ret_one (v := Value.int .i64 0) rfl hE (.tmp rfl .nil) ?_
   exact .inr ⟨by simpa using hBAD, rfl, B_gh, K_0⟩
  have dr3_3 : ∀ (g3_18 : Nat) (W : World) (a : Act), En 43 a [(0, Value.pointer (some ⟨gh, 0, none⟩)), (2, Value.int .i64 0), (3, Value.pointer (some ⟨g3_18, 0, none⟩)), (10, Value.bool false), (11, Value.tuple #[Value.agg #[Value.bool dn, Value.bool (wr || !consB dn rk own least), Value.bool fa, Value.int .i64 ins, Value.int .i64 own], Value.bool (consB dn rk own least), Value.int .i64 0]), (12, Value.pointer (some ⟨gh, 0, none⟩)), (13, Value.pointer (some ⟨gh, 0, none⟩)), (14, Value.pointer (some ⟨gh, 0, none⟩)), (15, Value.pointer (some ⟨gh, 66, none⟩)), (16, Value.agg #[Value.bool dn, Value.bool wr, Value.bool fa, Value.int .i64 ins, Value.int .i64 rk]), (17, Value.pointer (some ⟨gh, 0, none⟩)), (18, Value.pointer (some ⟨gh, 0, none⟩)), (19, Value.pointer (some ⟨gh, 79, none⟩)), (20, Value.int .i64 own), (21, Value.pointer (some ⟨gh, 0, none⟩)), (22, Value.pointer (some ⟨gh, 0, none⟩)), (23, Value.pointer (some ⟨gh, 80, none⟩)), (24, Value.int .i64 least), (25, Value.tuple #[Value.agg #[Value.bool dn, Value.bool (wr || !consB dn rk own least), Value.bool fa, Value.int .i64 ins, Value.int .i64 own], Value.bool (consB dn rk own least), Value.int .i64 0]), (26, Value.agg #[Value.bool dn, Value.bool (wr || !consB dn rk own least), Value.bool fa, Value.int .i64 ins, Value.int .i64 own]), (27, Value.bool (consB dn rk own least)), (28, Value.int .i64 0)] → W.heap[gh]? = some (.cells (HA cl fw ln nx hp sa da true mv dn wr fa ins rk num T l.length cT nd pf rt RV tg came own least wg).toArray 96 (0, 0)) → W.heap[g3_18]? = some (.cells #[Value.bool false, Value.bool false, Value.bool false, Value.int .i64 0, Value.int .i64 0] 32 (0, 0)) → g3_18 ≠ gh → w.heap.size ≤ g3_18 → Kp w W (fun k => k = gh) → wpAnyH Try.prog .any (regOf Try.f75 3) QQ (fun W => W.heap[gh]? = some (.cells (HA cl fw ln nx hp sa da true mv dn wr fa ins rk num T l.length cT nd pf rt RV tg came own least wg).toArray 96 (0, 0)) ∧ True) 3 #[κ, κ, κ, κ, κ, κ, κ, κ, κ, κ, κ, κ, κ, κ, κ, κ, κ, κ, κ, ι, ι, ι] a W := by
   intro g3_18 w32 a hE B_gh B_g3_18 n_g3_18_gh z_0_g3_18 K_0
   refine d_all (rs := [19]) (by kernel_rfl) rfl ?_
   refine all_cons (d_lit (listed' := #[κ, κ, κ, κ, κ, κ, κ, κ, κ, κ, κ, κ, κ, κ, κ, κ, κ, κ, κ, κ, ι, ι]) rfl ?_) ?_
   ·
    refine (s_store (off := 0) (k := 5) (cs' := #[Value.bool dn, Value.bool (wr || !consB dn rk own least), Value.bool fa, Value.int .i64 ins, Value.int .i64 own]) p75_3_19 hE wn_none tS32 rfl rfl rfl rfl B_g3_18 (Nat.le_of_ble_eq_true rfl) rfl ?_)
    intro w33 B_g3_18' hk
    replace B_gh := kp_blk B_gh hk (Ne.symm n_g3_18_gh)
    replace K_0 := K_0.then_ hk (fun k h => by rw [show k = g3_18 from h]; exact Or.inr z_0_g3_18)
    replace B_g3_18 := B_g3_18'
    clear hk
    refine ⟨⟨B_gh, trivial⟩, ?_⟩
    refine Rv.dq (listed' := #[κ, κ, κ, κ, κ, κ, κ, κ, κ, κ, κ, κ, κ, κ, κ, κ, κ, κ, κ, κ, κ, ι]) (v := Value.bool (consB dn rk own least)) p75_3_20 ns75_3 hE wn_none ⟨B_gh, trivial⟩ (fun W hS => (st_assign rfl)) ?_ (fun c a w h => hQ c a _ _ w h); clear hE a; intro a hE
    refine Rv.dq (listed' := #[κ, κ, κ, κ, κ, κ, κ, κ, κ, κ, κ, κ, κ, κ, κ, κ, κ, κ, κ, κ, κ, κ]) (v := Value.int .i64 0) p75_3_21 ns75_3 hE wn_none ⟨B_gh, trivial⟩ (fun W hS => (st_assign rfl)) ?_ (fun c a w h => hQ c a _ _ w h); clear hE a; intro a hE
    exact dr3_4 g3_18 _ a (En.sub hE ⟨rfl, rfl, rfl, rfl, rfl, rfl, rfl, rfl, rfl, rfl, rfl, rfl, rfl, rfl, rfl, rfl, rfl, rfl, rfl, rfl, rfl, rfl, rfl, rfl, trivial⟩) B_gh B_g3_18 n_g3_18_gh z_0_g3_18 K_0
   exact all_nil
  have dr3_2 : ∀ (W : World) (a : Act), En 43 a [(0, Value.pointer (some ⟨gh, 0, none⟩)), (2, Value.int .i64 0), (10, Value.bool false), (11, Value.tuple #[Value.agg #[Value.bool dn, Value.bool (wr || !consB dn rk own least), Value.bool fa, Value.int .i64 ins, Value.int .i64 own], Value.bool (consB dn rk own least), Value.int .i64 0]), (12, Value.pointer (some ⟨gh, 0, none⟩)), (13, Value.pointer (some ⟨gh, 0, none⟩)), (14, Value.pointer (some ⟨gh, 0, none⟩)), (15, Value.pointer (some ⟨gh, 66, none⟩)), (16, Value.agg #[Value.bool dn, Value.bool wr, Value.bool fa, Value.int .i64 ins, Value.int .i64 rk]), (17, Value.pointer (some ⟨gh, 0, none⟩)), (18, Value.pointer (some ⟨gh, 0, none⟩)), (19, Value.pointer (some ⟨gh, 79, none⟩)), (20, Value.int .i64 own), (21, Value.pointer (some ⟨gh, 0, none⟩)), (22, Value.pointer (some ⟨gh, 0, none⟩)), (23, Value.pointer (some ⟨gh, 80, none⟩)), (24, Value.int .i64 least), (25, Value.tuple #[Value.agg #[Value.bool dn, Value.bool (wr || !consB dn rk own least), Value.bool fa, Value.int .i64 ins, Value.int .i64 own], Value.bool (consB dn rk own least), Value.int .i64 0]), (26, Value.agg #[Value.bool dn, Value.bool (wr || !consB dn rk own least), Value.bool fa, Value.int .i64 ins, Value.int .i64 own]), (27, Value.bool (consB dn rk own least)), (28, Value.int .i64 0)] → W.heap[gh]? = some (.cells (HA cl fw ln nx hp sa da true mv dn wr fa ins rk num T l.length cT nd pf rt RV tg came own least wg).toArray 96 (0, 0)) → Kp w W (fun k => k = gh) → wpAnyH Try.prog .any (regOf Try.f75 3) QQ (fun W => W.heap[gh]? = some (.cells (HA cl fw ln nx hp sa da true mv dn wr fa ins rk num T l.length cT nd pf rt RV tg came own least wg).toArray 96 (0, 0)) ∧ True) 4 #[κ, κ, κ, κ, κ, κ, κ, κ, κ, κ, κ, κ, κ, κ, κ, κ, κ, κ, ι, ι, ι, ι] a W := by
   intro w34 a hE B_gh K_0
   refine d_all (rs := [18]) (by kernel_rfl) rfl ?_
   refine all_cons (d_lit (listed' := #[κ, κ, κ, κ, κ, κ, κ, κ, κ, κ, κ, κ, κ, κ, κ, κ, κ, κ, κ, ι, ι, ι]) rfl ?_) ?_
   ·
    refine (s_alloc p75_3_18 hE wn_none rfl tZ32 ?_)
    clear hE a; intro g3_18 w35 z36 B_g3_18 hk a hE
    replace B_g3_18 : w35.heap[g3_18]? = some (.cells #[Value.bool false, Value.bool false, Value.bool false, Value.int .i64 0, Value.int .i64 0] 32 (0, 0)) := B_g3_18
    have n_gh_g3_18 : gh ≠ g3_18 := ne_new B_gh z36
    have z_0_g3_18 := Nat.le_trans K_0.kept.1 z36
    replace B_gh := kp_blk B_gh hk (fun h => h)
    replace K_0 := K_0.then_ hk (fun _ h => h.elim)
    clear hk
    refine ⟨⟨B_gh, trivial⟩, ?_⟩
    have n_g3_18_gh := Ne.symm n_gh_g3_18
    exact dr3_3 g3_18 _ a (En.sub hE ⟨rfl, rfl, rfl, rfl, rfl, rfl, rfl, rfl, rfl, rfl, rfl, rfl, rfl, rfl, rfl, rfl, rfl, rfl, rfl, rfl, rfl, rfl, trivial⟩) B_gh B_g3_18 n_g3_18_gh z_0_g3_18 K_0
   exact all_nil
  have dr3_1 : ∀ (g3_18 : Nat) (W : World) (a : Act), En 43 a [(0, Value.pointer (some ⟨gh, 0, none⟩)), (2, Value.int .i64 0), (3, Value.pointer (some ⟨g3_18, 0, none⟩)), (10, Value.bool false), (12, Value.pointer (some ⟨gh, 0, none⟩)), (13, Value.pointer (some ⟨gh, 0, none⟩)), (14, Value.pointer (some ⟨gh, 0, none⟩)), (15, Value.pointer (some ⟨gh, 66, none⟩)), (16, Value.agg #[Value.bool dn, Value.bool wr, Value.bool fa, Value.int .i64 ins, Value.int .i64 rk]), (17, Value.pointer (some ⟨gh, 0, none⟩)), (18, Value.pointer (some ⟨gh, 0, none⟩)), (19, Value.pointer (some ⟨gh, 79, none⟩)), (20, Value.int .i64 own), (21, Value.pointer (some ⟨gh, 0, none⟩)), (22, Value.pointer (some ⟨gh, 0, none⟩)), (23, Value.pointer (some ⟨gh, 80, none⟩)), (24, Value.int .i64 least)] → W.heap[gh]? = some (.cells (HA cl fw ln nx hp sa da true mv dn wr fa ins rk num T l.length cT nd pf rt RV tg came own least wg).toArray 96 (0, 0)) → W.heap[g3_18]? = some (.cells #[Value.bool false, Value.bool false, Value.bool false, Value.int .i64 0, Value.int .i64 0] 32 (0, 0)) → g3_18 ≠ gh → w.heap.size ≤ g3_18 → Kp w W (fun k => k = gh) → wpAnyH Try.prog .any (regOf Try.f75 3) QQ (fun W => W.heap[gh]? = some (.cells (HA cl fw ln nx hp sa da true mv dn wr fa ins rk num T l.length cT nd pf rt RV tg came own least wg).toArray 96 (0, 0)) ∧ True) 8 #[κ, κ, κ, κ, κ, κ, κ, κ, κ, κ, κ, κ, κ, ι, ι, ι, ι, ι, κ, ι, ι, ι] a W := by
   intro g3_18 w37 a hE B_gh B_g3_18 n_g3_18_gh z_0_g3_18 K_0
   refine d_all (rs := [13]) (by kernel_rfl) rfl ?_
   refine all_cons (d_lit (listed' := #[κ, κ, κ, κ, κ, κ, κ, κ, κ, κ, κ, κ, κ, κ, ι, ι, ι, ι, κ, ι, ι, ι]) rfl ?_) ?_
   ·
    refine (s_call (xs := [Operand.tmp 16, Operand.tmp 20, Operand.tmp 24]) (args := [Value.agg #[Value.bool dn, Value.bool wr, Value.bool fa, Value.int .i64 ins, Value.int .i64 rk], Value.int .i64 own, Value.int .i64 least]) p75_3_13 hE wn_none rfl rfl Try.func112 cl112 (hop_good dn wr fa ins rk own least hok ho hl (by simpa using hBAD) _) ?_)
    rintro e w38 ⟨rfl, hk⟩
    replace B_gh := kp_blk B_gh hk (fun h => h)
    replace B_g3_18 := kp_blk B_g3_18 hk (fun h => h)
    replace K_0 := K_0.then_ hk (fun _ h => h.elim)
    refine ⟨_, rfl, ?_⟩; clear hE a; intro a hE
    refine ⟨⟨B_gh, trivial⟩, ?_⟩
    refine Rv.dq (listed' := #[κ, κ, κ, κ, κ, κ, κ, κ, κ, κ, κ, κ, κ, κ, κ, ι, ι, ι, κ, ι, ι, ι]) (v := Value.tuple #[Value.agg #[Value.bool dn, Value.bool (wr || !consB dn rk own least), Value.bool fa, Value.int .i64 ins, Value.int .i64 own], Value.bool (consB dn rk own least), Value.int .i64 0]) p75_3_14 ns75_3 hE wn_none ⟨B_gh, trivial⟩ (fun W hS => (st_move rfl)) ?_ (fun c a w h => hQ c a _ _ w h); clear hE a; intro a hE
    refine Rv.dq (listed' := #[κ, κ, κ, κ, κ, κ, κ, κ, κ, κ, κ, κ, κ, κ, κ, κ, ι, ι, κ, ι, ι, ι]) (v := Value.agg #[Value.bool dn, Value.bool (wr || !consB dn rk own least), Value.bool fa, Value.int .i64 ins, Value.int .i64 own]) p75_3_15 ns75_3 hE wn_none ⟨B_gh, trivial⟩ (fun W hS => (st_extract rfl rfl)) ?_ (fun c a w h => hQ c a _ _ w h); clear hE a; intro a hE
    refine Rv.dq (listed' := #[κ, κ, κ, κ, κ, κ, κ, κ, κ, κ, κ, κ, κ, κ, κ, κ, κ, ι, κ, ι, ι, ι]) (v := Value.bool (consB dn rk own least)) p75_3_16 ns75_3 hE wn_none ⟨B_gh, trivial⟩ (fun W hS => (st_extract rfl rfl)) ?_ (fun c a w h => hQ c a _ _ w h); clear hE a; intro a hE
    refine Rv.dq (listed' := #[κ, κ, κ, κ, κ, κ, κ, κ, κ, κ, κ, κ, κ, κ, κ, κ, κ, κ, κ, ι, ι, ι]) (v := Value.int .i64 0) p75_3_17 ns75_3 hE wn_none ⟨B_gh, trivial⟩ (fun W hS => (st_extract rfl rfl)) ?_ (fun c a w h => hQ c a _ _ w h); clear hE a; intro a hE
    exact dr3_3 g3_18 _ a (En.sub hE ⟨rfl, rfl, rfl, rfl, rfl, rfl, rfl, rfl, rfl, rfl, rfl, rfl, rfl, rfl, rfl, rfl, rfl, rfl, rfl, rfl, rfl, rfl, trivial⟩) B_gh B_g3_18 n_g3_18_gh z_0_g3_18 K_0
   exact all_nil
  have dr3_0 : ∀ (W : World) (a : Act), En 43 a [(0, Value.pointer (some ⟨gh, 0, none⟩)), (2, Value.int .i64 0), (10, Value.bool false), (12, Value.pointer (some ⟨gh, 0, none⟩)), (13, Value.pointer (some ⟨gh, 0, none⟩)), (14, Value.pointer (some ⟨gh, 0, none⟩)), (15, Value.pointer (some ⟨gh, 66, none⟩)), (16, Value.agg #[Value.bool dn, Value.bool wr, Value.bool fa, Value.int .i64 ins, Value.int .i64 rk]), (17, Value.pointer (some ⟨gh, 0, none⟩)), (18, Value.pointer (some ⟨gh, 0, none⟩)), (19, Value.pointer (some ⟨gh, 79, none⟩)), (20, Value.int .i64 own), (21, Value.pointer (some ⟨gh, 0, none⟩)), (22, Value.pointer (some ⟨gh, 0, none⟩)), (23, Value.pointer (some ⟨gh, 80, none⟩)), (24, Value.int .i64 least)] → W.heap[gh]? = some (.cells (HA cl fw ln nx hp sa da true mv dn wr fa ins rk num T l.length cT nd pf rt RV tg came own least wg).toArray 96 (0, 0)) → Kp w W (fun k => k = gh) → wpAnyH Try.prog .any (regOf Try.f75 3) QQ (fun W => W.heap[gh]? = some (.cells (HA cl fw ln nx hp sa da true mv dn wr fa ins rk num T l.length cT nd pf rt RV tg came own least wg).toArray 96 (0, 0)) ∧ True) 9 #[κ, κ, κ, κ, κ, κ, κ, κ, κ, κ, κ, κ, κ, ι, ι, ι, ι, ι, ι, ι, ι, ι] a W := by
   intro w39 a hE B_gh K_0
   refine d_all (rs := [13, 18]) (by kernel_rfl) rfl ?_
   refine all_cons (d_lit (listed' := #[κ, κ, κ, κ, κ, κ, κ, κ, κ, κ, κ, κ, κ, κ, ι, ι, ι, ι, ι, ι, ι, ι]) rfl ?_) ?_
   ·
    refine (s_call (xs := [Operand.tmp 16, Operand.tmp 20, Operand.tmp 24]) (args := [Value.agg #[Value.bool dn, Value.bool wr, Value.bool fa, Value.int .i64 ins, Value.int .i64 rk], Value.int .i64 own, Value.int .i64 least]) p75_3_13 hE wn_none rfl rfl Try.func112 cl112 (hop_good dn wr fa ins rk own least hok ho hl (by simpa using hBAD) _) ?_)
    rintro e w40 ⟨rfl, hk⟩
    replace B_gh := kp_blk B_gh hk (fun h => h)
    replace K_0 := K_0.then_ hk (fun _ h => h.elim)
    refine ⟨_, rfl, ?_⟩; clear hE a; intro a hE
    refine ⟨⟨B_gh, trivial⟩, ?_⟩
    refine Rv.dq (listed' := #[κ, κ, κ, κ, κ, κ, κ, κ, κ, κ, κ, κ, κ, κ, κ, ι, ι, ι, ι, ι, ι, ι]) (v := Value.tuple #[Value.agg #[Value.bool dn, Value.bool (wr || !consB dn rk own least), Value.bool fa, Value.int .i64 ins, Value.int .i64 own], Value.bool (consB dn rk own least), Value.int .i64 0]) p75_3_14 ns75_3 hE wn_none ⟨B_gh, trivial⟩ (fun W hS => (st_move rfl)) ?_ (fun c a w h => hQ c a _ _ w h); clear hE a; intro a hE
    refine Rv.dq (listed' := #[κ, κ, κ, κ, κ, κ, κ, κ, κ, κ, κ, κ, κ, κ, κ, κ, ι, ι, ι, ι, ι, ι]) (v := Value.agg #[Value.bool dn, Value.bool (wr || !consB dn rk own least), Value.bool fa, Value.int .i64 ins, Value.int .i64 own]) p75_3_15 ns75_3 hE wn_none ⟨B_gh, trivial⟩ (fun W hS => (st_extract rfl rfl)) ?_ (fun c a w h => hQ c a _ _ w h); clear hE a; intro a hE
    refine Rv.dq (listed' := #[κ, κ, κ, κ, κ, κ, κ, κ, κ, κ, κ, κ, κ, κ, κ, κ, κ, ι, ι, ι, ι, ι]) (v := Value.bool (consB dn rk own least)) p75_3_16 ns75_3 hE wn_none ⟨B_gh, trivial⟩ (fun W hS => (st_extract rfl rfl)) ?_ (fun c a w h => hQ c a _ _ w h); clear hE a; intro a hE
    refine Rv.dq (listed' := #[κ, κ, κ, κ, κ, κ, κ, κ, κ, κ, κ, κ, κ, κ, κ, κ, κ, κ, ι, ι, ι, ι]) (v := Value.int .i64 0) p75_3_17 ns75_3 hE wn_none ⟨B_gh, trivial⟩ (fun W hS => (st_extract rfl rfl)) ?_ (fun c a w h => hQ c a _ _ w h); clear hE a; intro a hE
    exact dr3_2 _ a (En.sub hE ⟨rfl, rfl, rfl, rfl, rfl, rfl, rfl, rfl, rfl, rfl, rfl, rfl, rfl, rfl, rfl, rfl, rfl, rfl, rfl, rfl, rfl, trivial⟩) B_gh K_0
   refine all_cons (d_lit (listed' := #[κ, κ, κ, κ, κ, κ, κ, κ, κ, κ, κ, κ, κ, ι, ι, ι, ι, ι, κ, ι, ι, ι]) rfl ?_) ?_
   ·
    refine (s_alloc p75_3_18 hE wn_none rfl tZ32 ?_)
    clear hE a; intro g3_18 w41 z42 B_g3_18 hk a hE
    replace B_g3_18 : w41.heap[g3_18]? = some (.cells #[Value.bool false, Value.bool false, Value.bool false, Value.int .i64 0, Value.int .i64 0] 32 (0, 0)) := B_g3_18
    have n_gh_g3_18 : gh ≠ g3_18 := ne_new B_gh z42
    have z_0_g3_18 := Nat.le_trans K_0.kept.1 z42
    replace B_gh := kp_blk B_gh hk (fun h => h)
    replace K_0 := K_0.then_ hk (fun _ h => h.elim)
    clear hk
    refine ⟨⟨B_gh, trivial⟩, ?_⟩
    have n_g3_18_gh := Ne.symm n_gh_g3_18
    exact dr3_1 g3_18 _ a (En.sub hE ⟨rfl, rfl, rfl, rfl, rfl, rfl, rfl, rfl, rfl, rfl, rfl, rfl, rfl, rfl, rfl, rfl, rfl, trivial⟩) B_gh B_g3_18 n_g3_18_gh z_0_g3_18 K_0
   exact all_nil
  intro w21 hh hk
  replace B_gh := kp_blk B_gh hk (fun h => h)
  replace K_0 := K_0.then_ hk (fun _ h => h.elim)
  clear hh hk
  refine Rv.dq (listed' := #[κ, ι, ι, ι, ι, ι, ι, ι, ι, ι, ι, ι, ι, ι, ι, ι, ι, ι, ι, ι, ι, ι]) (v := Value.pointer (some ⟨gh, 0, none⟩)) p75_3_0 ns75_3 hE wn_none ⟨B_gh, trivial⟩ (fun W hS => (st_move rfl)) ?_ (fun c a w h => hQ c a _ _ w h); clear hE a; intro a hE
  refine Rv.dq (listed' := #[κ, κ, ι, ι, ι, ι, ι, ι, ι, ι, ι, ι, ι, ι, ι, ι, ι, ι, ι, ι, ι, ι]) (v := Value.pointer (some ⟨gh, 0, none⟩)) p75_3_1 ns75_3 hE wn_none ⟨B_gh, trivial⟩ (fun W hS => (st_nil rfl)) ?_ (fun c a w h => hQ c a _ _ w h); clear hE a; intro a hE
  refine Rv.dq (listed' := #[κ, κ, κ, ι, ι, ι, ι, ι, ι, ι, ι, ι, ι, ι, ι, ι, ι, ι, ι, ι, ι, ι]) (v := Value.pointer (some ⟨gh, 0, none⟩)) p75_3_2 ns75_3 hE wn_none ⟨B_gh, trivial⟩ (fun W hS => (st_fieldAddr Try.underlying96 rfl tS35 rfl rfl)) ?_ (fun c a w h => hQ c a _ _ w h); clear hE a; intro a hE
  refine Rv.dq (listed' := #[κ, κ, κ, κ, ι, ι, ι, ι, ι, ι, ι, ι, ι, ι, ι, ι, ι, ι, ι, ι, ι, ι]) (v := Value.pointer (some ⟨gh, 66, none⟩)) p75_3_3 ns75_3 hE wn_none ⟨B_gh, trivial⟩ (fun W hS => (st_fieldAddr Try.underlying35 rfl tS32 rfl rfl)) ?_ (fun c a w h => hQ c a _ _ w h); clear hE a; intro a hE
  refine Rv.dq (listed' := #[κ, κ, κ, κ, κ, ι, ι, ι, ι, ι, ι, ι, ι, ι, ι, ι, ι, ι, ι, ι, ι, ι]) (v := Value.agg #[Value.bool dn, Value.bool wr, Value.bool fa, Value.int .i64 ins, Value.int .i64 rk]) p75_3_4 ns75_3 hE wn_none ⟨B_gh, trivial⟩ (fun W hS => (st_loadN (off := 66) (k := 5) (vs := [Value.bool dn, Value.bool wr, Value.bool fa, Value.int .i64 ins, Value.int .i64 rk]) tA32 tS32 rfl hS.1 rfl rfl)) ?_ (fun c a w h => hQ c a _ _ w h); clear hE a; intro a hE
  refine Rv.dq (listed' := #[κ, κ, κ, κ, κ, κ, ι, ι, ι, ι, ι, ι, ι, ι, ι, ι, ι, ι, ι, ι, ι, ι]) (v := Value.pointer (some ⟨gh, 0, none⟩)) p75_3_5 ns75_3 hE wn_none ⟨B_gh, trivial⟩ (fun W hS => (st_move rfl)) ?_ (fun c a w h => hQ c a _ _ w h); clear hE a; intro a hE
  refine Rv.dq (listed' := #[κ, κ, κ, κ, κ, κ, κ, ι, ι, ι, ι, ι, ι, ι, ι, ι, ι, ι, ι, ι, ι, ι]) (v := Value.pointer (some ⟨gh, 0, none⟩)) p75_3_6 ns75_3 hE wn_none ⟨B_gh, trivial⟩ (fun W hS => (st_nil rfl)) ?_ (fun c a w h => hQ c a _ _ w h); clear hE a; intro a hE
  refine Rv.dq (listed' := #[κ, κ, κ, κ, κ, κ, κ, κ, ι, ι, ι, ι, ι, ι, ι, ι, ι, ι, ι, ι, ι, ι]) (v := Value.pointer (some ⟨gh, 79, none⟩)) p75_3_7 ns75_3 hE wn_none ⟨B_gh, trivial⟩ (fun W hS => (st_fieldAddr Try.underlying96 rfl tS3 rfl rfl)) ?_ (fun c a w h => hQ c a _ _ w h); clear hE a; intro a hE
  refine Rv.dq (listed' := #[κ, κ, κ, κ, κ, κ, κ, κ, κ, ι, ι, ι, ι, ι, ι, ι, ι, ι, ι, ι, ι, ι]) (v := Value.int .i64 own) p75_3_8 ns75_3 hE wn_none ⟨B_gh, trivial⟩ (fun W hS => (st_load1 tA3 rfl ((blk_cell hS.1 79).trans rfl))) ?_ (fun c a w h => hQ c a _ _ w h); clear hE a; intro a hE
  refine Rv.dq (listed' := #[κ, κ, κ, κ, κ, κ, κ, κ, κ, κ, ι, ι, ι, ι, ι, ι, ι, ι, ι, ι, ι, ι]) (v := Value.pointer (some ⟨gh, 0, none⟩)) p75_3_9 ns75_3 hE wn_none ⟨B_gh, trivial⟩ (fun W hS => (st_move rfl)) ?_ (fun c a w h => hQ c a _ _ w h); clear hE a; intro a hE
  refine Rv.dq (listed' := #[κ, κ, κ, κ, κ, κ, κ, κ, κ, κ, κ, ι, ι, ι, ι, ι, ι, ι, ι, ι, ι, ι]) (v := Value.pointer (some ⟨gh, 0, none⟩)) p75_3_10 ns75_3 hE wn_none ⟨B_gh, trivial⟩ (fun W hS => (st_nil rfl)) ?_ (fun c a w h => hQ c a _ _ w h); clear hE a; intro a hE
  refine Rv.dq (listed' := #[κ, κ, κ, κ, κ, κ, κ, κ, κ, κ, κ, κ, ι, ι, ι, ι, ι, ι, ι, ι, ι, ι]) (v := Value.pointer (some ⟨gh, 80, none⟩)) p75_3_11 ns75_3 hE wn_none ⟨B_gh, trivial⟩ (fun W hS => (st_fieldAddr Try.underlying96 rfl tS3 rfl rfl)) ?_ (fun c a w h => hQ c a _ _ w h); clear hE a; intro a hE
  refine Rv.dq (listed' := #[κ, κ, κ, κ, κ, κ, κ, κ, κ, κ, κ, κ, κ, ι, ι, ι, ι, ι, ι, ι, ι, ι]) (v := Value.int .i64 least) p75_3_12 ns75_3 hE wn_none ⟨B_gh, trivial⟩ (fun W hS => (st_load1 tA3 rfl ((blk_cell hS.1 80).trans rfl))) ?_ (fun c a w h => hQ c a _ _ w h); clear hE a; intro a hE
  exact dr3_0 _ a (En.sub hE ⟨rfl, rfl, rfl, rfl, rfl, rfl, rfl, rfl, rfl, rfl, rfl, rfl, rfl, rfl, rfl, rfl, trivial⟩) B_gh K_0
theorem R76_0_l : List.range (regOf Try.f76 0).size = [0] := by kernel_rfl
theorem R76_2_l : List.range (regOf Try.f76 2).size = [0, 1] := by kernel_rfl
theorem R76_3_l : List.range (regOf Try.f76 3).size = [0, 1] := by kernel_rfl
theorem R76_4_l : List.range (regOf Try.f76 4).size = [0, 1, 2, 3, 4, 5, 6] := by kernel_rfl
theorem R76_5_l : List.range (regOf Try.f76 5).size = [0, 1] := by kernel_rfl
theorem R76_7_l : List.range (regOf Try.f76 7).size = [0, 1] := by kernel_rfl
theorem R76_8_l : List.range (regOf Try.f76 8).size = [0] := by kernel_rfl
theorem R76_9_l : List.range (regOf Try.f76 9).size = [0, 1] := by kernel_rfl
theorem R76_10_l : List.range (regOf Try.f76 10).size = [0, 1, 2, 3, 4, 5] := by kernel_rfl
theorem R76_6_l : List.range (regOf Try.f76 6).size = [0, 1, 2] := by kernel_rfl
theorem R76_12_l : List.range (regOf Try.f76 12).size = [0, 1] := by kernel_rfl
theorem R76_14_l : List.range (regOf Try.f76 14).size = [0, 1, 2, 3, 4, 5, 6] := by kernel_rfl
theorem body76 : Try.f76.body = some (.seq (.region 0 (regOf Try.f76 0) false) (.seq (.region 1 (regOf Try.f76 1) true) (.seq (.seq (.region 2 (regOf Try.f76 2) false) (.cond (Operand.tmp 29) (.seq (.region 3 (regOf Try.f76 3) false) (.ret)) (.skip))) (.seq (.region 4 (regOf Try.f76 4) false) (.seq (.seq (.region 5 (regOf Try.f76 5) false) (.block 0 (.seq (.region 7 (regOf Try.f76 7) false) (.cond (Operand.tmp 41) (.seq (.region 8 (regOf Try.f76 8) false) (.ret)) (.seq (.region 9 (regOf Try.f76 9) false) (.cond (Operand.tmp 43) (.region 10 (regOf Try.f76 10) false) (.region 6 (regOf Try.f76 6) false))))))) (.seq (.seq (.region 11 (regOf Try.f76 11) true) (.seq (.region 12 (regOf Try.f76 12) false) (.cond (Operand.tmp 69) (.seq (.region 13 (regOf Try.f76 13) false) (.ret)) (.skip)))) (.seq (.region 14 (regOf Try.f76 14) false) (.ret)))))))) := by kernel_rfl
theorem p76_0_0 : pj (regOf Try.f76 0) 0 = some (some 2, .assign (.const (.int .i64 0)), 36, none) := by kernel_rfl
theorem ns76_1 : Region.noSelect (regOf Try.f76 1) = true := by kernel_rfl
theorem p76_1_0 : pj (regOf Try.f76 1) 0 = some (some 7, .move (.tmp 0), 94, none) := by kernel_rfl
theorem p76_1_1 : pj (regOf Try.f76 1) 1 = some (some 8, .nilCheck (.tmp 7), 0, none) := by kernel_rfl
theorem p76_1_2 : pj (regOf Try.f76 1) 2 = some (some 9, .fieldAddr 96 (.tmp 8) 1, 0, none) := by kernel_rfl
theorem p76_1_3 : pj (regOf Try.f76 1) 3 = some (some 10, .load 41 (.tmp 9), 41, none) := by kernel_rfl
theorem tA41 : (Try.prog.underlying 41).map aggD = some true := by kernel_rfl
theorem p76_1_4 : pj (regOf Try.f76 1) 4 = some (some 11, .move (.tmp 0), 94, none) := by kernel_rfl
theorem p76_1_5 : pj (regOf Try.f76 1) 5 = some (some 12, .nilCheck (.tmp 11), 0, none) := by kernel_rfl
theorem p76_1_6 : pj (regOf Try.f76 1) 6 = some (some 13, .fieldAddr 96 (.tmp 12) 2, 0, none) := by kernel_rfl
theorem p76_1_7 : pj (regOf Try.f76 1) 7 = some (some 14, .load 3 (.tmp 13), 3, none) := by kernel_rfl
theorem p76_1_8 : pj (regOf Try.f76 1) 8 = some (some 15, .move (.tmp 0), 94, none) := by kernel_rfl
theorem p76_1_9 : pj (regOf Try.f76 1) 9 = some (some 16, .nilCheck (.tmp 15), 0, none) := by kernel_rfl
theorem p76_1_10 : pj (regOf Try.f76 1) 10 = some (some 17, .fieldAddr 96 (.tmp 16) 3, 0, none) := by kernel_rfl
theorem p76_1_11 : pj (regOf Try.f76 1) 11 = some (some 18, .load 3 (.tmp 17), 3, none) := by kernel_rfl
theorem p76_1_12 : pj (regOf Try.f76 1) 12 = some (some 19, .move (.tmp 0), 94, none) := by kernel_rfl
theorem p76_1_13 : pj (regOf Try.f76 1) 13 = some (some 20, .nilCheck (.tmp 19), 0, none) := by kernel_rfl
theorem p76_1_14 : pj (regOf Try.f76 1) 14 = some (some 21, .fieldAddr 96 (.tmp 20) 0, 0, none) := by kernel_rfl
theorem p76_1_15 : pj (regOf Try.f76 1) 15 = some (some 22, .fieldAddr 35 (.tmp 21) 3, 0, none) := by kernel_rfl
theorem p76_1_16 : pj (regOf Try.f76 1) 16 = some (some 23, .fieldAddr 32 (.tmp 22) 0, 0, none) := by kernel_rfl
theorem p76_1_17 : pj (regOf Try.f76 1) 17 = some (some 24, .load 4 (.tmp 23), 4, none) := by kernel_rfl
theorem p76_1_18 : pj (regOf Try.f76 1) 18 = some (some 25, .call { callee := .value (.func 113), args := #[.tmp 10, .tmp 14, .tmp 18, .tmp 24], argTypes := #[41, 3, 3, 4] }, 192, none) := by kernel_rfl
theorem cl113 : callable Try.f113 = true := by kernel_rfl
theorem p76_1_19 : pj (regOf Try.f76 1) 19 = some (some 6, .move (.tmp 25), 192, none) := by kernel_rfl
theorem p76_1_20 : pj (regOf Try.f76 1) 20 = some (some 26, .extract (.tmp 6) 0, 191, none) := by kernel_rfl
theorem p76_1_21 : pj (regOf Try.f76 1) 21 = some (some 27, .extract (.tmp 6) 1, 36, none) := by kernel_rfl
theorem p76_1_22 : pj (regOf Try.f76 1) 22 = some (some 3, .alloc 191, 0, none) := by kernel_rfl
theorem tZ191 : (Try.prog.info? 191).bind (·.zero) = some (Value.agg #[Value.int .i64 0, Value.int .i64 0, Value.bool false]) := by kernel_rfl
theorem p76_1_23 : pj (regOf Try.f76 1) 23 = some (none, .store 191 (.tmp 3) (.tmp 26), 0, none) := by kernel_rfl
theorem tS191 : (Try.prog.info? 191).map (·.size) = some 3 := by kernel_rfl
theorem p76_1_24 : pj (regOf Try.f76 1) 24 = some (some 4, .assign (.tmp 27), 36, none) := by kernel_rfl
theorem P76_2 : (List.range (regOf Try.f76 2).size).map (pj (regOf Try.f76 2)) = [zz 28 (.move (.tmp 4)) 36, zz 29 (.binOp .neq 36 (.tmp 28) (.const (.int .i64 0)) 36) 4] := by kernel_rfl
theorem P76_4 : (List.range (regOf Try.f76 4).size).map (pj (regOf Try.f76 4)) = [zz 31 (.move (.tmp 0)) 94, zz 32 (.nilCheck (.tmp 31)) 0, zz 33 (.fieldAddr 96 (.tmp 32) 0) 0, zz 34 (.fieldAddr 35 (.tmp 33) 3) 0, zz 35 (.fieldAddr 32 (.tmp 34) 0) 0, zz 36 (.load 4 (.tmp 35)) 4, zz 5 (.assign (.tmp 36)) 4] := by kernel_rfl
theorem P76_5 : (List.range (regOf Try.f76 5).size).map (pj (regOf Try.f76 5)) = [zz 37 (.fieldAddr 191 (.tmp 3) 0) 0, zz 38 (.load 3 (.tmp 37)) 3] := by kernel_rfl
theorem P76_7 : (List.range (regOf Try.f76 7).size).map (pj (regOf Try.f76 7)) = [zz 42 (.binOp .eql 3 (.tmp 38) (.const (.int .i64 4)) 3) 4, zz 41 (.assign (.tmp 42)) 4] := by kernel_rfl
theorem p76_8_0 : pj (regOf Try.f76 8) 0 = some (some 2, .assign (.const (.int .i64 8)), 36, none) := by kernel_rfl
theorem P76_9 : (List.range (regOf Try.f76 9).size).map (pj (regOf Try.f76 9)) = [zz 44 (.binOp .eql 3 (.tmp 38) (.const (.int .i64 3)) 3) 4, zz 43 (.assign (.tmp 44)) 4] := by kernel_rfl
theorem P76_10 : (List.range (regOf Try.f76 10).size).map (pj (regOf Try.f76 10)) = [zz 45 (.move (.tmp 0)) 94, zz 46 (.nilCheck (.tmp 45)) 0, zz 47 (.fieldAddr 96 (.tmp 46) 0) 0, zz 48 (.fieldAddr 35 (.tmp 47) 3) 0, zz 49 (.fieldAddr 32 (.tmp 48) 2) 0, some (none, .store 4 (.tmp 49) (.const (.bool true)), 0, none)] := by kernel_rfl
theorem ns76_11 : Region.noSelect (regOf Try.f76 11) = true := by kernel_rfl
theorem p76_11_0 : pj (regOf Try.f76 11) 0 = some (some 51, .move (.tmp 0), 94, none) := by kernel_rfl
theorem p76_11_1 : pj (regOf Try.f76 11) 1 = some (some 52, .move (.tmp 0), 94, none) := by kernel_rfl
theorem p76_11_2 : pj (regOf Try.f76 11) 2 = some (some 53, .nilCheck (.tmp 52), 0, none) := by kernel_rfl
theorem p76_11_3 : pj (regOf Try.f76 11) 3 = some (some 54, .fieldAddr 96 (.tmp 53) 0, 0, none) := by kernel_rfl
theorem p76_11_4 : pj (regOf Try.f76 11) 4 = some (some 55, .fieldAddr 35 (.tmp 54) 3, 0, none) := by kernel_rfl
theorem p76_11_6 : pj (regOf Try.f76 11) 6 = some (some 57, .move (.tmp 0), 94, none) := by kernel_rfl
theorem p76_11_7 : pj (regOf Try.f76 11) 7 = some (some 58, .nilCheck (.tmp 57), 0, none) := by kernel_rfl
theorem p76_11_8 : pj (regOf Try.f76 11) 8 = some (some 59, .fieldAddr 96 (.tmp 58) 4, 0, none) := by kernel_rfl
theorem p76_11_10 : pj (regOf Try.f76 11) 10 = some (some 61, .move (.tmp 5), 4, none) := by kernel_rfl
theorem p76_11_5 : pj (regOf Try.f76 11) 5 = some (some 56, .load 32 (.tmp 55), 32, none) := by kernel_rfl
theorem p76_11_9 : pj (regOf Try.f76 11) 9 = some (some 60, .load 3 (.tmp 59), 3, none) := by kernel_rfl
theorem p76_11_11 : pj (regOf Try.f76 11) 11 = some (some 62, .call { callee := .value (.func 114), args := #[.tmp 56, .tmp 60, .tmp 61], argTypes := #[32, 3, 4] }, 194, none) := by kernel_rfl
theorem cl114 : callable Try.f114 = true := by kernel_rfl
theorem p76_11_12 : pj (regOf Try.f76 11) 12 = some (some 50, .move (.tmp 62), 194, none) := by kernel_rfl
theorem p76_11_13 : pj (regOf Try.f76 11) 13 = some (some 63, .extract (.tmp 50) 0, 32, none) := by kernel_rfl
theorem p76_11_14 : pj (regOf Try.f76 11) 14 = some (some 64, .extract (.tmp 50) 1, 36, none) := by kernel_rfl
theorem p76_11_15 : pj (regOf Try.f76 11) 15 = some (some 65, .nilCheck (.tmp 51), 0, none) := by kernel_rfl
theorem p76_11_16 : pj (regOf Try.f76 11) 16 = some (some 66, .fieldAddr 96 (.tmp 65) 0, 0, none) := by kernel_rfl
theorem p76_11_17 : pj (regOf Try.f76 11) 17 = some (some 67, .fieldAddr 35 (.tmp 66) 3, 0, none) := by kernel_rfl
theorem p76_11_18 : pj (regOf Try.f76 11) 18 = some (none, .store 32 (.tmp 67) (.tmp 63), 0, none) := by kernel_rfl
theorem p76_11_19 : pj (regOf Try.f76 11) 19 = some (some 4, .assign (.tmp 64), 36, none) := by kernel_rfl
theorem P76_12 : (List.range (regOf Try.f76 12).size).map (pj (regOf Try.f76 12)) = [zz 68 (.move (.tmp 4)) 36, zz 69 (.binOp .neq 36 (.tmp 68) (.const (.int .i64 0)) 36) 4] := by kernel_rfl
theorem P76_14 : (List.range (regOf Try.f76 14).size).map (pj (regOf Try.f76 14)) = [zz 71 (.move (.tmp 0)) 94, zz 72 (.fieldAddr 191 (.tmp 3) 0) 0, zz 73 (.load 3 (.tmp 72)) 3, zz 74 (.fieldAddr 191 (.tmp 3) 1) 0, zz 75 (.load 3 (.tmp 74)) 3, zz 76 (.call { callee := .value (.func 109), args := #[.tmp 71, .tmp 73, .tmp 75], argTypes := #[94, 3, 3] }) 36, zz 2 (.assign (.tmp 76)) 36] := by kernel_rfl
theorem P76_6 : (List.range (regOf Try.f76 6).size).map (pj (regOf Try.f76 6)) = [zz 39 (.fieldAddr 191 (.tmp 3) 2) 0, zz 40 (.load 4 (.tmp 39)) 4, zz 5 (.assign (.tmp 40)) 4] := by kernel_rfl
theorem P76_3 : (List.range (regOf Try.f76 3).size).map (pj (regOf Try.f76 3)) = [zz 30 (.move (.tmp 4)) 36, zz 2 (.assign (.tmp 30)) 36] := by kernel_rfl
set_option maxHeartbeats 4000000 in
theorem on_k (cl fw ln nx hp : Int) (sa da : Nat → Int) (mv : Nat → Value) (dn wr fa : Bool) (ins rk num : Int) (T : Option Addr) (cT : Nat) (l : List Int) (nd pf : Int) (rt : Bool) (RV : Value) (tg came own least : Int) (wg : Bool) (gh : Nat) (hmv : ∀ j, (mv j).oneCell' = true) {R : Ending → World → Prop} (w : World) (v : Int → Int) (g : Int → Int × Int × Int) (er : Int) (hT : Tb RV v g er w (fun k => k = gh)) (hok : okO ins rk = true) (ho : 0 ≤ own ∧ own < 65536) (hB : w.heap[gh]? = some (.cells (HA cl fw ln nx hp sa da true mv dn wr fa ins rk num T l.length cT nd pf rt RV tg came own least wg).toArray 96 (0, 0))) (F_T : ∀ W', Kp w W' (fun k => k = gh) → Kd.C (Kd.int .u8) W' T l.length l) (hml : l.length ≤ 900000) (h1 : ¬ (nextF nd pf rt (v tg) tg came dn).2.2.2 = 0 → ∀ w', Kp w w' (fun k => k = gh) → R (.returned (.int .i64 (nextF nd pf rt (v tg) tg came dn).2.2.2)) w') (h2 : (nextF nd pf rt (v tg) tg came dn).2.2.2 = 0 → (nextF nd pf rt (v tg) tg came dn).1 = 4 → ∀ w', Kp w w' (fun k => k = gh) → R (.returned (.int .i64 8)) w') (h3 : (nextF nd pf rt (v tg) tg came dn).2.2.2 = 0 → (nextF nd pf rt (v tg) tg came dn).1 = 3 → ∀ w', w'.heap[gh]? = some (.cells (HB cl fw ln nx hp sa da true mv dn wr true ins own num T l.length cT nd pf rt RV tg came own least 3 ((nextF nd pf rt (v tg) tg came dn).2.1) wg).toArray 96 (0, 0)) → Kp w w' (fun k => k = gh) → R (.returned (.int .i64 0)) w') (h4 : (nextF nd pf rt (v tg) tg came dn).2.2.2 = 0 → ¬ (nextF nd pf rt (v tg) tg came dn).1 = 4 → ¬ (nextF nd pf rt (v tg) tg came dn).1 = 3 → ∀ w', w'.heap[gh]? = some (.cells (HB cl fw ln nx hp sa da true mv ((nextF nd pf rt (v tg) tg came dn).2.2.1) wr fa ins own num T l.length cT nd pf rt RV tg came own least ((nextF nd pf rt (v tg) tg came dn).1) ((nextF nd pf rt (v tg) tg came dn).2.1) wg).toArray 96 (0, 0)) → Kp w w' (fun k => k = gh) → R (.returned (.int .i64 0)) w') : Calls Try.prog 76 #[Value.pointer (some ⟨gh, 0, none⟩)] w R := by
 have K_0 := Kp.refl w (fun k => k = gh)
 have B_gh := hB
 obtain ⟨H, hH⟩ : ∃ H, nextF nd pf rt (v tg) tg came dn = H := ⟨_, rfl⟩
 refine enter (args := [Value.pointer (some ⟨gh, 0, none⟩)]) (n := 77) Try.func76 body76 rfl rfl rfl ?_
 intro a hE
 refine c_reg R76_0_l ?_
 refine q0 p76_0_0 hE (st_assign rfl) ?_; clear hE a; intro a hE
 refine p_nil (x_norm ?_)
 refine c_drawMS (S := fun W => W.heap[gh]? = some (.cells (HA cl fw ln nx hp sa da true mv dn wr fa ins rk num T l.length cT nd pf rt RV tg came own least wg).toArray 96 (0, 0)) ∧ True) rfl rfl (listed := #[ι, ι, ι, ι, ι, ι, ι, ι, ι, ι, ι, ι, ι, ι, ι, ι, ι, ι, ι, ι, ι, ι, ι, ι, ι]) rfl pan_body (fun QQ hQ hend => ?_)
 have dr1_4 : ∀ (g1_22 : Nat) (W : World) (a : Act), En 77 a [(0, Value.pointer (some ⟨gh, 0, none⟩)), (2, Value.int .i64 0), (3, Value.pointer (some ⟨g1_22, 0, none⟩)), (4, Value.int .i64 H.2.2.2), (6, Value.tuple #[Value.agg #[Value.int .i64 H.1, Value.int .i64 H.2.1, Value.bool H.2.2.1], Value.int .i64 H.2.2.2]), (7, Value.pointer (some ⟨gh, 0, none⟩)), (8, Value.pointer (some ⟨gh, 0, none⟩)), (9, Value.pointer (some ⟨gh, 73, none⟩)), (10, Value.agg #[Value.int .i64 nd, Value.int .i64 pf, Value.bool rt, RV]), (11, Value.pointer (some ⟨gh, 0, none⟩)), (12, Value.pointer (some ⟨gh, 0, none⟩)), (13, Value.pointer (some ⟨gh, 77, none⟩)), (14, Value.int .i64 tg), (15, Value.pointer (some ⟨gh, 0, none⟩)), (16, Value.pointer (some ⟨gh, 0, none⟩)), (17, Value.pointer (some ⟨gh, 78, none⟩)), (18, Value.int .i64 came), (19, Value.pointer (some ⟨gh, 0, none⟩)), (20, Value.pointer (some ⟨gh, 0, none⟩)), (21, Value.pointer (some ⟨gh, 0, none⟩)), (22, Value.pointer (some ⟨gh, 66, none⟩)), (23, Value.pointer (some ⟨gh, 66, none⟩)), (24, Value.bool dn), (25, Value.tuple #[Value.agg #[Value.int .i64 H.1, Value.int .i64 H.2.1, Value.bool H.2.2.1], Value.int .i64 H.2.2.2]), (26, Value.agg #[Value.int .i64 H.1, Value.int .i64 H.2.1, Value.bool H.2.2.1]), (27, Value.int .i64 H.2.2.2)] → W.heap[gh]? = some (.cells (HA cl fw ln nx hp sa da true mv dn wr fa ins rk num T l.length cT nd pf rt RV tg came own least wg).toArray 96 (0, 0)) → W.heap[g1_22]? = some (.cells #[Value.int .i64 H.1, Value.int .i64 H.2.1, Value.bool H.2.2.1] 191 (0, 0)) → g1_22 ≠ gh → w.heap.size ≤ g1_22 → Kp w W (fun k => k = gh) → wpAnyH Try.prog .any (regOf Try.f76 1) QQ (fun W => W.heap[gh]? = some (.cells (HA cl fw ln nx hp sa da true mv dn wr fa ins rk num T l.length cT nd pf rt RV tg came own least wg).toArray 96 (0, 0)) ∧ True) 0 #[κ, κ, κ, κ, κ, κ, κ, κ, κ, κ, κ, κ, κ, κ, κ, κ, κ, κ, κ, κ, κ, κ, κ, κ, κ] a W := by
  intro g1_22 w9 a hE B_gh B_g1_22 n_g1_22_gh z_0_g1_22 K_0
  refine d_end (by kernel_rfl) (hend _ _ ?_)
  refine wp_seq (c_reg R76_2_l ?_)
  refine q0 (pl P76_2 0) hE (st_move rfl) ?_; clear hE a; intro a hE
  rcases Decidable.em (H.2.2.2 = 0) with hc10 | hc10
  ·
   refine p_cons (s_still (v := Value.bool false) (pl P76_2 1) hE wn_none rfl (st_neq rfl rfl (by rw [decide_eq_true hc10]; rfl)) ?_); clear hE a; intro a hE
   refine p_nil (x_norm ?_)
   refine c_cond (t := false) hE rfl ?_
   refine wp_skip (x_norm (c_reg R76_4_l ?_))
   refine qn hE (rc (pl P76_4 0) (st_move rfl) (rc (pl P76_4 1) (st_nil rfl) (rc (pl P76_4 2) (st_fieldAddr Try.underlying96 rfl tS35 rfl rfl) (rc (pl P76_4 3) (st_fieldAddr Try.underlying35 rfl tS32 rfl rfl) (rc (pl P76_4 4) (st_fieldAddr Try.underlying32 rfl tS4 rfl rfl) (rc (pl P76_4 5) (st_load1 tA4 rfl ((blk_cell B_gh 66).trans rfl)) (rc (pl P76_4 6) (st_assign rfl) rn))))))) ?_; clear hE a; intro a hE
   refine p_nil (x_norm (wp_seq (c_reg R76_5_l ?_)))
   refine qn hE (rc (pl P76_5 0) (st_fieldAddr Try.underlying191 rfl tS3 rfl rfl) (rc (pl P76_5 1) (st_load1 tA3 rfl ((blk_cell B_g1_22 0).trans rfl)) rn)) ?_; clear hE a; intro a hE
   refine p_nil (x_norm (wp_block (c_reg R76_7_l ?_)))
   rcases Decidable.em (H.1 = 4) with hc11 | hc11
   ·
    refine qn hE (rg (v := Value.bool true) (pl P76_7 0) wn_none (st_eql rfl rfl (decide_eq_true hc11)) (rc (pl P76_7 1) (st_assign rfl) rn)) ?_; clear hE a; intro a hE
    refine p_nil (x_norm ?_)
    refine c_cond (t := true) hE rfl ?_
    refine c_reg R76_8_l ?_
    refine q0 p76_8_0 hE (st_assign rfl) ?_; clear hE a; intro a hE
    refine p_nil (x_norm (wp_ret (x_retB (x_ret ?_))))
    refine ret_one (v := Value.int .i64 8) rfl hE (.tmp rfl .nil) ?_
    exact h2 (by rw [hH]; exact hc10) (by rw [hH]; exact hc11) _ K_0
   ·
    refine qn hE (rg (v := Value.bool false) (pl P76_7 0) wn_none (st_eql rfl rfl (decide_eq_false hc11)) (rc (pl P76_7 1) (st_assign rfl) rn)) ?_; clear hE a; intro a hE
    refine p_nil (x_norm ?_)
    refine c_cond (t := false) hE rfl ?_
    refine c_reg R76_9_l ?_
    rcases Decidable.em (H.1 = 3) with hc12 | hc12
    ·
     refine qn hE (rg (v := Value.bool true) (pl P76_9 0) wn_none (st_eql rfl rfl (decide_eq_true hc12)) (rc (pl P76_9 1) (st_assign rfl) rn)) ?_; clear hE a; intro a hE
     refine p_nil (x_norm ?_)
     refine c_cond (t := true) hE rfl ?_
     refine c_regL R76_10_l ?_
     refine qn hE (rc (pl P76_10 0) (st_move rfl) (rc (pl P76_10 1) (st_nil rfl) (rc (pl P76_10 2) (st_fieldAddr Try.underlying96 rfl tS35 rfl rfl) (rc (pl P76_10 3) (st_fieldAddr Try.underlying35 rfl tS32 rfl rfl) (rc (pl P76_10 4) (st_fieldAddr Try.underlying32 rfl tS4 rfl rfl) rn))))) ?_; clear hE a; intro a hE
     refine p_cons (s_store (off := 68) (k := 1) (cs' := (HA cl fw ln nx hp sa da true mv dn wr true ins rk num T l.length cT nd pf rt RV tg came own least wg).toArray) (pl P76_10 5) hE wn_none tS4 rfl rfl rfl rfl B_gh (Nat.le_of_ble_eq_true rfl) rfl ?_)
     intro w13 B_gh' hk
     replace B_g1_22 := kp_blk B_g1_22 hk n_g1_22_gh
     replace K_0 := K_0.then_ hk (fun k h => by rw [show k = gh from h]; exact Or.inl rfl)
     replace B_gh := B_gh'
     clear hk
     refine p_nil (x_normB (x_norm (wp_seq ?_)))
     refine c_drawMS (S := fun W => True) rfl rfl (listed := #[ι, ι, ι, ι, ι, ι, ι, ι, ι, ι, ι, ι, ι, ι, ι, ι, ι, ι, ι, ι]) rfl (by repeat' first | exact pan_body | refine pan_then ?_ | refine pan_block ?_) (fun QQ hQ hend => ?_)
     have dr11_5 : ∀ (W : World) (a : Act), En 77 a [(0, Value.pointer (some ⟨gh, 0, none⟩)), (2, Value.int .i64 0), (3, Value.pointer (some ⟨g1_22, 0, none⟩)), (4, Value.int .i64 0), (5, Value.bool dn), (29, Value.bool false), (38, Value.int .i64 H.1), (41, Value.bool false), (43, Value.bool true), (50, Value.tuple #[Value.agg #[Value.bool dn, Value.bool wr, Value.bool true, Value.int .i64 ins, Value.int .i64 own], Value.int .i64 0]), (51, Value.pointer (some ⟨gh, 0, none⟩)), (52, Value.pointer (some ⟨gh, 0, none⟩)), (53, Value.pointer (some ⟨gh, 0, none⟩)), (54, Value.pointer (some ⟨gh, 0, none⟩)), (55, Value.pointer (some ⟨gh, 66, none⟩)), (56, Value.agg #[Value.bool dn, Value.bool wr, Value.bool true, Value.int .i64 ins, Value.int .i64 rk]), (57, Value.pointer (some ⟨gh, 0, none⟩)), (58, Value.pointer (some ⟨gh, 0, none⟩)), (59, Value.pointer (some ⟨gh, 79, none⟩)), (60, Value.int .i64 own), (61, Value.bool dn), (62, Value.tuple #[Value.agg #[Value.bool dn, Value.bool wr, Value.bool true, Value.int .i64 ins, Value.int .i64 own], Value.int .i64 0]), (63, Value.agg #[Value.bool dn, Value.bool wr, Value.bool true, Value.int .i64 ins, Value.int .i64 own]), (64, Value.int .i64 0), (65, Value.pointer (some ⟨gh, 0, none⟩)), (66, Value.pointer (some ⟨gh, 0, none⟩)), (67, Value.pointer (some ⟨gh, 66, none⟩))] → W.heap[gh]? = some (.cells (HA cl fw ln nx hp sa da true mv dn wr true ins own num T l.length cT nd pf rt RV tg came own least wg).toArray 96 (0, 0)) → W.heap[g1_22]? = some (.cells #[Value.int .i64 H.1, Value.int .i64 H.2.1, Value.bool H.2.2.1] 191 (0, 0)) → Kp w W (fun k => k = gh) → wpAnyH Try.prog .any (regOf Try.f76 11) QQ (fun W => True) 0 #[κ, κ, κ, κ, κ, κ, κ, κ, κ, κ, κ, κ, κ, κ, κ, κ, κ, κ, κ, κ] a W := by
      intro w17 a hE B_gh B_g1_22 K_0
      refine d_end (by kernel_rfl) (hend _ _ ?_)
      refine c_reg R76_12_l ?_
      refine qn hE (rc (pl P76_12 0) (st_move rfl) (rc (pl P76_12 1) (st_neq (b := false) rfl rfl (by decide)) rn)) ?_; clear hE a; intro a hE
      refine p_nil (x_norm ?_)
      refine c_cond (t := false) hE rfl ?_
      refine wp_skip (x_norm (c_reg R76_14_l ?_))
      refine qn hE (rc (pl P76_14 0) (st_move rfl) (rc (pl P76_14 1) (st_fieldAddr Try.underlying191 rfl tS3 rfl rfl) (rc (pl P76_14 2) (st_load1 tA3 rfl ((blk_cell B_g1_22 0).trans rfl)) (rc (pl P76_14 3) (st_fieldAddr Try.underlying191 rfl tS3 rfl rfl) (rc (pl P76_14 4) (st_load1 tA3 rfl ((blk_cell B_g1_22 1).trans rfl)) rn))))) ?_; clear hE a; intro a hE
      refine p_cons (s_call (xs := [Operand.tmp 71, Operand.tmp 73, Operand.tmp 75]) (args := [Value.pointer (some ⟨gh, 0, none⟩), Value.int .i64 H.1, Value.int .i64 H.2.1]) (pl P76_14 5) hE wn_none rfl rfl Try.func109 cl109 (end_any cl fw ln nx hp sa da mv dn wr true ins own num T cT l nd pf rt RV tg came own least wg gh H.1 H.2.1 hmv _ B_gh) ?_)
      rintro e w18 ⟨rfl, B_gh', hk⟩
      replace B_g1_22 := kp_blk B_g1_22 hk n_g1_22_gh
      replace K_0 := K_0.then_ hk (fun k h => by rw [show k = gh from h]; exact Or.inl rfl)
      replace B_gh := B_gh'
      refine ⟨_, rfl, ?_⟩; clear hE a; intro a hE
      refine q0 (pl P76_14 6) hE (st_assign rfl) ?_; clear hE a; intro a hE
      refine p_nil (x_norm (wp_ret ?_))
      refine ret_one (v := Value.int .i64 0) rfl hE (.tmp rfl .nil) ?_
      rw [hc12] at B_gh
      exact h3 (by rw [hH]; exact hc10) (by rw [hH]; exact hc12) _ (by rw [hH]; exact B_gh) K_0
     have dr11_4 : ∀ (W : World) (a : Act), En 77 a [(0, Value.pointer (some ⟨gh, 0, none⟩)), (2, Value.int .i64 0), (3, Value.pointer (some ⟨g1_22, 0, none⟩)), (4, Value.int .i64 H.2.2.2), (5, Value.bool dn), (29, Value.bool false), (38, Value.int .i64 H.1), (41, Value.bool false), (43, Value.bool true), (50, Value.tuple #[Value.agg #[Value.bool dn, Value.bool wr, Value.bool true, Value.int .i64 ins, Value.int .i64 own], Value.int .i64 0]), (51, Value.pointer (some ⟨gh, 0, none⟩)), (52, Value.pointer (some ⟨gh, 0, none⟩)), (53, Value.pointer (some ⟨gh, 0, none⟩)), (54, Value.pointer (some ⟨gh, 0, none⟩)), (55, Value.pointer (some ⟨gh, 66, none⟩)), (56, Value.agg #[Value.bool dn, Value.bool wr, Value.bool true, Value.int .i64 ins, Value.int .i64 rk]), (57, Value.pointer (some ⟨gh, 0, none⟩)), (58, Value.pointer (some ⟨gh, 0, none⟩)), (59, Value.pointer (some ⟨gh, 79, none⟩)), (60, Value.int .i64 own), (61, Value.bool dn), (62, Value.tuple #[Value.agg #[Value.bool dn, Value.bool wr, Value.bool true, Value.int .i64 ins, Value.int .i64 own], Value.int .i64 0]), (63, Value.agg #[Value.bool dn, Value.bool wr, Value.bool true, Value.int .i64 ins, Value.int .i64 own]), (64, Value.int .i64 0), (65, Value.pointer (some ⟨gh, 0, none⟩)), (66, Value.pointer (some ⟨gh, 0, none⟩)), (67, Value.pointer (some ⟨gh, 66, none⟩))] → W.heap[gh]? = some (.cells (HA cl fw ln nx hp sa da true mv dn wr true ins rk num T l.length cT nd pf rt RV tg came own least wg).toArray 96 (0, 0)) → W.heap[g1_22]? = some (.cells #[Value.int .i64 H.1, Value.int .i64 H.2.1, Value.bool H.2.2.1] 191 (0, 0)) → Kp w W (fun k => k = gh) → wpAnyH Try.prog .any (regOf Try.f76 11) QQ (fun W => True) 2 #[κ, κ, κ, κ, κ, κ, κ, κ, κ, κ, κ, κ, κ, κ, κ, κ, κ, κ, ι, ι] a W := by
      intro w19 a hE B_gh B_g1_22 K_0
      refine d_all (rs := [18]) (by kernel_rfl) rfl ?_
      refine all_cons (d_lit (listed' := #[κ, κ, κ, κ, κ, κ, κ, κ, κ, κ, κ, κ, κ, κ, κ, κ, κ, κ, κ, ι]) rfl ?_) ?_
      ·
       refine (s_store (off := 66) (k := 5) (cs' := (HA cl fw ln nx hp sa da true mv dn wr true ins own num T l.length cT nd pf rt RV tg came own least wg).toArray) p76_11_18 hE wn_none tS32 rfl rfl rfl rfl B_gh (Nat.le_of_ble_eq_true rfl) rfl ?_)
       intro w20 B_gh' hk
       replace B_g1_22 := kp_blk B_g1_22 hk n_g1_22_gh
       replace K_0 := K_0.then_ hk (fun k h => by rw [show k = gh from h]; exact Or.inl rfl)
       replace B_gh := B_gh'
       clear hk
       refine ⟨trivial, ?_⟩
       refine Rv.dq (listed' := #[κ, κ, κ, κ, κ, κ, κ, κ, κ, κ, κ, κ, κ, κ, κ, κ, κ, κ, κ, κ]) (v := Value.int .i64 0) p76_11_19 ns76_11 hE wn_none trivial (fun W hS => (st_assign rfl)) ?_ (fun c a w h => hQ c a _ _ w h); clear hE a; intro a hE
       exact dr11_5 _ a (En.sub hE ⟨rfl, rfl, rfl, rfl, rfl, rfl, rfl, rfl, rfl, rfl, rfl, rfl, rfl, rfl, rfl, rfl, rfl, rfl, rfl, rfl, rfl, rfl, rfl, rfl, rfl, rfl, rfl, trivial⟩) B_gh B_g1_22 K_0
      exact all_nil
     have dr11_3 : ∀ (W : World) (a : Act), En 77 a [(0, Value.pointer (some ⟨gh, 0, none⟩)), (2, Value.int .i64 0), (3, Value.pointer (some ⟨g1_22, 0, none⟩)), (4, Value.int .i64 H.2.2.2), (5, Value.bool dn), (29, Value.bool false), (38, Value.int .i64 H.1), (41, Value.bool false), (43, Value.bool true), (51, Value.pointer (some ⟨gh, 0, none⟩)), (52, Value.pointer (some ⟨gh, 0, none⟩)), (53, Value.pointer (some ⟨gh, 0, none⟩)), (54, Value.pointer (some ⟨gh, 0, none⟩)), (55, Value.pointer (some ⟨gh, 66, none⟩)), (56, Value.agg #[Value.bool dn, Value.bool wr, Value.bool true, Value.int .i64 ins, Value.int .i64 rk]), (57, Value.pointer (some ⟨gh, 0, none⟩)), (58, Value.pointer (some ⟨gh, 0, none⟩)), (59, Value.pointer (some ⟨gh, 79, none⟩)), (60, Value.int .i64 own), (61, Value.bool dn)] → W.heap[gh]? = some (.cells (HA cl fw ln nx hp sa da true mv dn wr true ins rk num T l.length cT nd pf rt RV tg came own least wg).toArray 96 (0, 0)) → W.heap[g1_22]? = some (.cells #[Value.int .i64 H.1, Value.int .i64 H.2.1, Value.bool H.2.2.1] 191 (0, 0)) → Kp w W (fun k => k = gh) → wpAnyH Try.prog .any (regOf Try.f76 11) QQ (fun W => True) 9 #[κ, κ, κ, κ, κ, κ, κ, κ, κ, κ, κ, ι, ι, ι, ι, ι, ι, ι, ι, ι] a W := by
      intro w21 a hE B_gh B_g1_22 K_0
      refine d_all (rs := [11]) (by kernel_rfl) rfl ?_
      refine all_cons (d_lit (listed' := #[κ, κ, κ, κ, κ, κ, κ, κ, κ, κ, κ, κ, ι, ι, ι, ι, ι, ι, ι, ι]) rfl ?_) ?_
      ·
       refine (s_call (xs := [Operand.tmp 56, Operand.tmp 60, Operand.tmp 61]) (args := [Value.agg #[Value.bool dn, Value.bool wr, Value.bool true, Value.int .i64 ins, Value.int .i64 rk], Value.int .i64 own, Value.bool dn]) p76_11_11 hE wn_none rfl rfl Try.func114 cl114 (mark_any dn wr true ins rk own dn hok ho _) ?_)
       rintro e w22 ⟨rfl, hk⟩
       replace B_gh := kp_blk B_gh hk (fun h => h)
       replace B_g1_22 := kp_blk B_g1_22 hk (fun h => h)
       replace K_0 := K_0.then_ hk (fun _ h => h.elim)
       refine ⟨_, rfl, ?_⟩; clear hE a; intro a hE
       refine ⟨trivial, ?_⟩
       refine Rv.dq (listed' := #[κ, κ, κ, κ, κ, κ, κ, κ, κ, κ, κ, κ, κ, ι, ι, ι, ι, ι, ι, ι]) (v := Value.tuple #[Value.agg #[Value.bool dn, Value.bool wr, Value.bool true, Value.int .i64 ins, Value.int .i64 own], Value.int .i64 0]) p76_11_12 ns76_11 hE wn_none trivial (fun W hS => (st_move rfl)) ?_ (fun c a w h => hQ c a _ _ w h); clear hE a; intro a hE
       refine Rv.dq (listed' := #[κ, κ, κ, κ, κ, κ, κ, κ, κ, κ, κ, κ, κ, κ, ι, ι, ι, ι, ι, ι]) (v := Value.agg #[Value.bool dn, Value.bool wr, Value.bool true, Value.int .i64 ins, Value.int .i64 own]) p76_11_13 ns76_11 hE wn_none trivial (fun W hS => (st_extract rfl rfl)) ?_ (fun c a w h => hQ c a _ _ w h); clear hE a; intro a hE
       refine Rv.dq (listed' := #[κ, κ, κ, κ, κ, κ, κ, κ, κ, κ, κ, κ, κ, κ, κ, ι, ι, ι, ι, ι]) (v := Value.int .i64 0) p76_11_14 ns76_11 hE wn_none trivial (fun W hS => (st_extract rfl rfl)) ?_ (fun c a w h => hQ c a _ _ w h); clear hE a; intro a hE
       refine Rv.dq (listed' := #[κ, κ, κ, κ, κ, κ, κ, κ, κ, κ, κ, κ, κ, κ, κ, κ, ι, ι, ι, ι]) (v := Value.pointer (some ⟨gh, 0, none⟩)) p76_11_15 ns76_11 hE wn_none trivial (fun W hS => (st_nil rfl)) ?_ (fun c a w h => hQ c a _ _ w h); clear hE a; intro a hE
       refine Rv.dq (listed' := #[κ, κ, κ, κ, κ, κ, κ, κ, κ, κ, κ, κ, κ, κ, κ, κ, κ, ι, ι, ι]) (v := Value.pointer (some ⟨gh, 0, none⟩)) p76_11_16 ns76_11 hE wn_none trivial (fun W hS => (st_fieldAddr Try.underlying96 rfl tS35 rfl rfl)) ?_ (fun c a w h => hQ c a _ _ w h); clear hE a; intro a hE
       refine Rv.dq (listed' := #[κ, κ, κ, κ, κ, κ, κ, κ, κ, κ, κ, κ, κ, κ, κ, κ, κ, κ, ι, ι]) (v := Value.pointer (some ⟨gh, 66, none⟩)) p76_11_17 ns76_11 hE wn_none trivial (fun W hS => (st_fieldAddr Try.underlying35 rfl tS32 rfl rfl)) ?_ (fun c a w h => hQ c a _ _ w h); clear hE a; intro a hE
       exact dr11_4 _ a (En.sub hE ⟨rfl, rfl, rfl, rfl, rfl, rfl, rfl, rfl, rfl, rfl, rfl, rfl, rfl, rfl, rfl, rfl, rfl, rfl, rfl, rfl, rfl, rfl, rfl, rfl, rfl, rfl, rfl, trivial⟩) B_gh B_g1_22 K_0
      exact all_nil
     have dr11_2 : ∀ (W : World) (a : Act), En 77 a [(0, Value.pointer (some ⟨gh, 0, none⟩)), (2, Value.int .i64 0), (3, Value.pointer (some ⟨g1_22, 0, none⟩)), (4, Value.int .i64 H.2.2.2), (5, Value.bool dn), (29, Value.bool false), (38, Value.int .i64 H.1), (41, Value.bool false), (43, Value.bool true), (51, Value.pointer (some ⟨gh, 0, none⟩)), (52, Value.pointer (some ⟨gh, 0, none⟩)), (53, Value.pointer (some ⟨gh, 0, none⟩)), (54, Value.pointer (some ⟨gh, 0, none⟩)), (55, Value.pointer (some ⟨gh, 66, none⟩)), (57, Value.pointer (some ⟨gh, 0, none⟩)), (58, Value.pointer (some ⟨gh, 0, none⟩)), (59, Value.pointer (some ⟨gh, 79, none⟩)), (60, Value.int .i64 own), (61, Value.bool dn)] → W.heap[gh]? = some (.cells (HA cl fw ln nx hp sa da true mv dn wr true ins rk num T l.length cT nd pf rt RV tg came own least wg).toArray 96 (0, 0)) → W.heap[g1_22]? = some (.cells #[Value.int .i64 H.1, Value.int .i64 H.2.1, Value.bool H.2.2.1] 191 (0, 0)) → Kp w W (fun k => k = gh) → wpAnyH Try.prog .any (regOf Try.f76 11) QQ (fun W => True) 10 #[κ, κ, κ, κ, κ, ι, κ, κ, κ, κ, κ, ι, ι, ι, ι, ι, ι, ι, ι, ι] a W := by
      intro w23 a hE B_gh B_g1_22 K_0
      refine d_all (rs := [5]) (by kernel_rfl) rfl ?_
      refine all_cons (d_lit (listed' := #[κ, κ, κ, κ, κ, κ, κ, κ, κ, κ, κ, ι, ι, ι, ι, ι, ι, ι, ι, ι]) rfl ?_) ?_
      ·
       refine (s_still p76_11_5 hE wn_none rfl (st_loadN (off := 66) (k := 5) (vs := [Value.bool dn, Value.bool wr, Value.bool true, Value.int .i64 ins, Value.int .i64 rk]) tA32 tS32 rfl B_gh rfl rfl) ?_); clear hE a; intro a hE
       refine ⟨trivial, ?_⟩
       exact dr11_3 _ a (En.sub hE ⟨rfl, rfl, rfl, rfl, rfl, rfl, rfl, rfl, rfl, rfl, rfl, rfl, rfl, rfl, rfl, rfl, rfl, rfl, rfl, rfl, trivial⟩) B_gh B_g1_22 K_0
      exact all_nil
     have dr11_1 : ∀ (W : World) (a : Act), En 77 a [(0, Value.pointer (some ⟨gh, 0, none⟩)), (2, Value.int .i64 0), (3, Value.pointer (some ⟨g1_22, 0, none⟩)), (4, Value.int .i64 H.2.2.2), (5, Value.bool dn), (29, Value.bool false), (38, Value.int .i64 H.1), (41, Value.bool false), (43, Value.bool true), (51, Value.pointer (some ⟨gh, 0, none⟩)), (52, Value.pointer (some ⟨gh, 0, none⟩)), (53, Value.pointer (some ⟨gh, 0, none⟩)), (54, Value.pointer (some ⟨gh, 0, none⟩)), (55, Value.pointer (some ⟨gh, 66, none⟩)), (56, Value.agg #[Value.bool dn, Value.bool wr, Value.bool true, Value.int .i64 ins, Value.int .i64 rk]), (57, Value.pointer (some ⟨gh, 0, none⟩)), (58, Value.pointer (some ⟨gh, 0, none⟩)), (59, Value.pointer (some ⟨gh, 79, none⟩)), (61, Value.bool dn)] → W.heap[gh]? = some (.cells (HA cl fw ln nx hp sa da true mv dn wr true ins rk num T l.length cT nd pf rt RV tg came own least wg).toArray 96 (0, 0)) → W.heap[g1_22]? = some (.cells #[Value.int .i64 H.1, Value.int .i64 H.2.1, Value.bool H.2.2.1] 191 (0, 0)) → Kp w W (fun k => k = gh) → wpAnyH Try.prog .any (regOf Try.f76 11) QQ (fun W => True) 10 #[κ, κ, κ, κ, κ, κ, κ, κ, κ, ι, κ, ι, ι, ι, ι, ι, ι, ι, ι, ι] a W := by
      intro w24 a hE B_gh B_g1_22 K_0
      refine d_all (rs := [9]) (by kernel_rfl) rfl ?_
      refine all_cons (d_lit (listed' := #[κ, κ, κ, κ, κ, κ, κ, κ, κ, κ, κ, ι, ι, ι, ι, ι, ι, ι, ι, ι]) rfl ?_) ?_
      ·
       refine (s_still p76_11_9 hE wn_none rfl (st_load1 tA3 rfl ((blk_cell B_gh 79).trans rfl)) ?_); clear hE a; intro a hE
       refine ⟨trivial, ?_⟩
       exact dr11_3 _ a (En.sub hE ⟨rfl, rfl, rfl, rfl, rfl, rfl, rfl, rfl, rfl, rfl, rfl, rfl, rfl, rfl, rfl, rfl, rfl, rfl, rfl, rfl, trivial⟩) B_gh B_g1_22 K_0
      exact all_nil
     have dr11_0 : ∀ (W : World) (a : Act), En 77 a [(0, Value.pointer (some ⟨gh, 0, none⟩)), (2, Value.int .i64 0), (3, Value.pointer (some ⟨g1_22, 0, none⟩)), (4, Value.int .i64 H.2.2.2), (5, Value.bool dn), (29, Value.bool false), (38, Value.int .i64 H.1), (41, Value.bool false), (43, Value.bool true), (51, Value.pointer (some ⟨gh, 0, none⟩)), (52, Value.pointer (some ⟨gh, 0, none⟩)), (53, Value.pointer (some ⟨gh, 0, none⟩)), (54, Value.pointer (some ⟨gh, 0, none⟩)), (55, Value.pointer (some ⟨gh, 66, none⟩)), (57, Value.pointer (some ⟨gh, 0, none⟩)), (58, Value.pointer (some ⟨gh, 0, none⟩)), (59, Value.pointer (some ⟨gh, 79, none⟩)), (61, Value.bool dn)] → W.heap[gh]? = some (.cells (HA cl fw ln nx hp sa da true mv dn wr true ins rk num T l.length cT nd pf rt RV tg came own least wg).toArray 96 (0, 0)) → W.heap[g1_22]? = some (.cells #[Value.int .i64 H.1, Value.int .i64 H.2.1, Value.bool H.2.2.1] 191 (0, 0)) → Kp w W (fun k => k = gh) → wpAnyH Try.prog .any (regOf Try.f76 11) QQ (fun W => True) 11 #[κ, κ, κ, κ, κ, ι, κ, κ, κ, ι, κ, ι, ι, ι, ι, ι, ι, ι, ι, ι] a W := by
      intro w25 a hE B_gh B_g1_22 K_0
      refine d_all (rs := [5, 9]) (by kernel_rfl) rfl ?_
      refine all_cons (d_lit (listed' := #[κ, κ, κ, κ, κ, κ, κ, κ, κ, ι, κ, ι, ι, ι, ι, ι, ι, ι, ι, ι]) rfl ?_) ?_
      ·
       refine (s_still p76_11_5 hE wn_none rfl (st_loadN (off := 66) (k := 5) (vs := [Value.bool dn, Value.bool wr, Value.bool true, Value.int .i64 ins, Value.int .i64 rk]) tA32 tS32 rfl B_gh rfl rfl) ?_); clear hE a; intro a hE
       refine ⟨trivial, ?_⟩
       exact dr11_1 _ a (En.sub hE ⟨rfl, rfl, rfl, rfl, rfl, rfl, rfl, rfl, rfl, rfl, rfl, rfl, rfl, rfl, rfl, rfl, rfl, rfl, rfl, trivial⟩) B_gh B_g1_22 K_0
      refine all_cons (d_lit (listed' := #[κ, κ, κ, κ, κ, ι, κ, κ, κ, κ, κ, ι, ι, ι, ι, ι, ι, ι, ι, ι]) rfl ?_) ?_
      ·
       refine (s_still p76_11_9 hE wn_none rfl (st_load1 tA3 rfl ((blk_cell B_gh 79).trans rfl)) ?_); clear hE a; intro a hE
       refine ⟨trivial, ?_⟩
       exact dr11_2 _ a (En.sub hE ⟨rfl, rfl, rfl, rfl, rfl, rfl, rfl, rfl, rfl, rfl, rfl, rfl, rfl, rfl, rfl, rfl, rfl, rfl, rfl, trivial⟩) B_gh B_g1_22 K_0
      exact all_nil
     intro w14 hh hk
     replace B_gh := kp_blk B_gh hk (fun h => h)
     replace B_g1_22 := kp_blk B_g1_22 hk (fun h => h)
     replace K_0 := K_0.then_ hk (fun _ h => h.elim)
     clear hh hk
     refine Rv.dq (listed' := #[κ, ι, ι, ι, ι, ι, ι, ι, ι, ι, ι, ι, ι, ι, ι, ι, ι, ι, ι, ι]) (v := Value.pointer (some ⟨gh, 0, none⟩)) p76_11_0 ns76_11 hE wn_none trivial (fun W hS => (st_move rfl)) ?_ (fun c a w h => hQ c a _ _ w h); clear hE a; intro a hE
     refine Rv.dq (listed' := #[κ, κ, ι, ι, ι, ι, ι, ι, ι, ι, ι, ι, ι, ι, ι, ι, ι, ι, ι, ι]) (v := Value.pointer (some ⟨gh, 0, none⟩)) p76_11_1 ns76_11 hE wn_none trivial (fun W hS => (st_move rfl)) ?_ (fun c a w h => hQ c a _ _ w h); clear hE a; intro a hE
     refine Rv.dq (listed' := #[κ, κ, κ, ι, ι, ι, ι, ι, ι, ι, ι, ι, ι, ι, ι, ι, ι, ι, ι, ι]) (v := Value.pointer (some ⟨gh, 0, none⟩)) p76_11_2 ns76_11 hE wn_none trivial (fun W hS => (st_nil rfl)) ?_ (fun c a w h => hQ c a _ _ w h); clear hE a; intro a hE
     refine Rv.dq (listed' := #[κ, κ, κ, κ, ι, ι, ι, ι, ι, ι, ι, ι, ι, ι, ι, ι, ι, ι, ι, ι]) (v := Value.pointer (some ⟨gh, 0, none⟩)) p76_11_3 ns76_11 hE wn_none trivial (fun W hS => (st_fieldAddr Try.underlying96 rfl tS35 rfl rfl)) ?_ (fun c a w h => hQ c a _ _ w h); clear hE a; intro a hE
     refine Rv.dq (listed' := #[κ, κ, κ, κ, κ, ι, ι, ι, ι, ι, ι, ι, ι, ι, ι, ι, ι, ι, ι, ι]) (v := Value.pointer (some ⟨gh, 66, none⟩)) p76_11_4 ns76_11 hE wn_none trivial (fun W hS => (st_fieldAddr Try.underlying35 rfl tS32 rfl rfl)) ?_ (fun c a w h => hQ c a _ _ w h); clear hE a; intro a hE
     refine Rv.dq (listed' := #[κ, κ, κ, κ, κ, ι, κ, ι, ι, ι, ι, ι, ι, ι, ι, ι, ι, ι, ι, ι]) (v := Value.pointer (some ⟨gh, 0, none⟩)) p76_11_6 ns76_11 hE wn_none trivial (fun W hS => (st_move rfl)) ?_ (fun c a w h => hQ c a _ _ w h); clear hE a; intro a hE
     refine Rv.dq (listed' := #[κ, κ, κ, κ, κ, ι, κ, κ, ι, ι, ι, ι, ι, ι, ι, ι, ι, ι, ι, ι]) (v := Value.pointer (some ⟨gh, 0, none⟩)) p76_11_7 ns76_11 hE wn_none trivial (fun W hS => (st_nil rfl)) ?_ (fun c a w h => hQ c a _ _ w h); clear hE a; intro a hE
     refine Rv.dq (listed' := #[κ, κ, κ, κ, κ, ι, κ, κ, κ, ι, ι, ι, ι, ι, ι, ι, ι, ι, ι, ι]) (v := Value.pointer (some ⟨gh, 79, none⟩)) p76_11_8 ns76_11 hE wn_none trivial (fun W hS => (st_fieldAddr Try.underlying96 rfl tS3 rfl rfl)) ?_ (fun c a w h => hQ c a _ _ w h); clear hE a; intro a hE
     refine Rv.dq (listed' := #[κ, κ, κ, κ, κ, ι, κ, κ, κ, ι, κ, ι, ι, ι, ι, ι, ι, ι, ι, ι]) (v := Value.bool dn) p76_11_10 ns76_11 hE wn_none trivial (fun W hS => (st_move rfl)) ?_ (fun c a w h => hQ c a _ _ w h); clear hE a; intro a hE
     exact dr11_0 _ a (En.sub hE ⟨rfl, rfl, rfl, rfl, rfl, rfl, rfl, rfl, rfl, rfl, rfl, rfl, rfl, rfl, rfl, rfl, rfl, rfl, trivial⟩) B_gh B_g1_22 K_0
    ·
     refine qn hE (rg (v := Value.bool false) (pl P76_9 0) wn_none (st_eql rfl rfl (decide_eq_false hc12)) (rc (pl P76_9 1) (st_assign rfl) rn)) ?_; clear hE a; intro a hE
     refine p_nil (x_norm ?_)
     refine c_cond (t := false) hE rfl ?_
     refine c_regL R76_6_l ?_
     refine qn hE (rc (pl P76_6 0) (st_fieldAddr Try.underlying191 rfl tS4 rfl rfl) (rc (pl P76_6 1) (st_load1 tA4 rfl ((blk_cell B_g1_22 2).trans rfl)) (rc (pl P76_6 2) (st_assign rfl) rn))) ?_; clear hE a; intro a hE
     refine p_nil (x_normB (x_norm (wp_seq ?_)))
     refine c_drawMS (S := fun W => True) rfl rfl (listed := #[ι, ι, ι, ι, ι, ι, ι, ι, ι, ι, ι, ι, ι, ι, ι, ι, ι, ι, ι, ι]) rfl (by repeat' first | exact pan_body | refine pan_then ?_ | refine pan_block ?_) (fun QQ hQ hend => ?_)
     have dr11_5 : ∀ (W : World) (a : Act), En 77 a [(0, Value.pointer (some ⟨gh, 0, none⟩)), (2, Value.int .i64 0), (3, Value.pointer (some ⟨g1_22, 0, none⟩)), (4, Value.int .i64 0), (5, Value.bool H.2.2.1), (29, Value.bool false), (38, Value.int .i64 H.1), (41, Value.bool false), (43, Value.bool false), (50, Value.tuple #[Value.agg #[Value.bool H.2.2.1, Value.bool wr, Value.bool fa, Value.int .i64 ins, Value.int .i64 own], Value.int .i64 0]), (51, Value.pointer (some ⟨gh, 0, none⟩)), (52, Value.pointer (some ⟨gh, 0, none⟩)), (53, Value.pointer (some ⟨gh, 0, none⟩)), (54, Value.pointer (some ⟨gh, 0, none⟩)), (55, Value.pointer (some ⟨gh, 66, none⟩)), (56, Value.agg #[Value.bool dn, Value.bool wr, Value.bool fa, Value.int .i64 ins, Value.int .i64 rk]), (57, Value.pointer (some ⟨gh, 0, none⟩)), (58, Value.pointer (some ⟨gh, 0, none⟩)), (59, Value.pointer (some ⟨gh, 79, none⟩)), (60, Value.int .i64 own), (61, Value.bool H.2.2.1), (62, Value.tuple #[Value.agg #[Value.bool H.2.2.1, Value.bool wr, Value.bool fa, Value.int .i64 ins, Value.int .i64 own], Value.int .i64 0]), (63, Value.agg #[Value.bool H.2.2.1, Value.bool wr, Value.bool fa, Value.int .i64 ins, Value.int .i64 own]), (64, Value.int .i64 0), (65, Value.pointer (some ⟨gh, 0, none⟩)), (66, Value.pointer (some ⟨gh, 0, none⟩)), (67, Value.pointer (some ⟨gh, 66, none⟩))] → W.heap[gh]? = some (.cells (HA cl fw ln nx hp sa da true mv H.2.2.1 wr fa ins own num T l.length cT nd pf rt RV tg came own least wg).toArray 96 (0, 0)) → W.heap[g1_22]? = some (.cells #[Value.int .i64 H.1, Value.int .i64 H.2.1, Value.bool H.2.2.1] 191 (0, 0)) → Kp w W (fun k => k = gh) → wpAnyH Try.prog .any (regOf Try.f76 11) QQ (fun W => True) 0 #[κ, κ, κ, κ, κ, κ, κ, κ, κ, κ, κ, κ, κ, κ, κ, κ, κ, κ, κ, κ] a W := by
      intro w29 a hE B_gh B_g1_22 K_0
      refine d_end (by kernel_rfl) (hend _ _ ?_)
      refine c_reg R76_12_l ?_
      refine qn hE (rc (pl P76_12 0) (st_move rfl) (rc (pl P76_12 1) (st_neq (b := false) rfl rfl (by decide)) rn)) ?_; clear hE a; intro a hE
      refine p_nil (x_norm ?_)
      refine c_cond (t := false) hE rfl ?_
      refine wp_skip (x_norm (c_reg R76_14_l ?_))
      refine qn hE (rc (pl P76_14 0) (st_move rfl) (rc (pl P76_14 1) (st_fieldAddr Try.underlying191 rfl tS3 rfl rfl) (rc (pl P76_14 2) (st_load1 tA3 rfl ((blk_cell B_g1_22 0).trans rfl)) (rc (pl P76_14 3) (st_fieldAddr Try.underlying191 rfl tS3 rfl rfl) (rc (pl P76_14 4) (st_load1 tA3 rfl ((blk_cell B_g1_22 1).trans rfl)) rn))))) ?_; clear hE a; intro a hE
      refine p_cons (s_call (xs := [Operand.tmp 71, Operand.tmp 73, Operand.tmp 75]) (args := [Value.pointer (some ⟨gh, 0, none⟩), Value.int .i64 H.1, Value.int .i64 H.2.1]) (pl P76_14 5) hE wn_none rfl rfl Try.func109 cl109 (end_any cl fw ln nx hp sa da mv H.2.2.1 wr fa ins own num T cT l nd pf rt RV tg came own least wg gh H.1 H.2.1 hmv _ B_gh) ?_)
      rintro e w30 ⟨rfl, B_gh', hk⟩
      replace B_g1_22 := kp_blk B_g1_22 hk n_g1_22_gh
      replace K_0 := K_0.then_ hk (fun k h => by rw [show k = gh from h]; exact Or.inl rfl)
      replace B_gh := B_gh'
      refine ⟨_, rfl, ?_⟩; clear hE a; intro a hE
      refine q0 (pl P76_14 6) hE (st_assign rfl) ?_; clear hE a; intro a hE
      refine p_nil (x_norm (wp_ret ?_))
      refine ret_one (v := Value.int .i64 0) rfl hE (.tmp rfl .nil) ?_
      exact h4 (by rw [hH]; exact hc10) (by rw [hH]; exact hc11) (by rw [hH]; exact hc12) _ (by rw [hH]; exact B_gh) K_0
     have dr11_4 : ∀ (W : World) (a : Act), En 77 a [(0, Value.pointer (some ⟨gh, 0, none⟩)), (2, Value.int .i64 0), (3, Value.pointer (some ⟨g1_22, 0, none⟩)), (4, Value.int .i64 H.2.2.2), (5, Value.bool H.2.2.1), (29, Value.bool false), (38, Value.int .i64 H.1), (41, Value.bool false), (43, Value.bool false), (50, Value.tuple #[Value.agg #[Value.bool H.2.2.1, Value.bool wr, Value.bool fa, Value.int .i64 ins, Value.int .i64 own], Value.int .i64 0]), (51, Value.pointer (some ⟨gh, 0, none⟩)), (52, Value.pointer (some ⟨gh, 0, none⟩)), (53, Value.pointer (some ⟨gh, 0, none⟩)), (54, Value.pointer (some ⟨gh, 0, none⟩)), (55, Value.pointer (some ⟨gh, 66, none⟩)), (56, Value.agg #[Value.bool dn, Value.bool wr, Value.bool fa, Value.int .i64 ins, Value.int .i64 rk]), (57, Value.pointer (some ⟨gh, 0, none⟩)), (58, Value.pointer (some ⟨gh, 0, none⟩)), (59, Value.pointer (some ⟨gh, 79, none⟩)), (60, Value.int .i64 own), (61, Value.bool H.2.2.1), (62, Value.tuple #[Value.agg #[Value.bool H.2.2.1, Value.bool wr, Value.bool fa, Value.int .i64 ins, Value.int .i64 own], Value.int .i64 0]), (63, Value.agg #[Value.bool H.2.2.1, Value.bool wr, Value.bool fa, Value.int .i64 ins, Value.int .i64 own]), (64, Value.int .i64 0), (65, Value.pointer (some ⟨gh, 0, none⟩)), (66, Value.pointer (some ⟨gh, 0, none⟩)), (67, Value.pointer (some ⟨gh, 66, none⟩))] → W.heap[gh]? = some (.cells (HA cl fw ln nx hp sa da true mv dn wr fa ins rk num T l.length cT nd pf rt RV tg came own least wg).toArray 96 (0, 0)) → W.heap[g1_22]? = some (.cells #[Value.int .i64 H.1, Value.int .i64 H.2.1, Value.bool H.2.2.1] 191 (0, 0)) → Kp w W (fun k => k = gh) → wpAnyH Try.prog .any (regOf Try.f76 11) QQ (fun W => True) 2 #[κ, κ, κ, κ, κ, κ, κ, κ, κ, κ, κ, κ, κ, κ, κ, κ, κ, κ, ι, ι] a W := by
      intro w31 a hE B_gh B_g1_22 K_0
      refine d_all (rs := [18]) (by kernel_rfl) rfl ?_
      refine all_cons (d_lit (listed' := #[κ, κ, κ, κ, κ, κ, κ, κ, κ, κ, κ, κ, κ, κ, κ, κ, κ, κ, κ, ι]) rfl ?_) ?_
      ·
       refine (s_store (off := 66) (k := 5) (cs' := (HA cl fw ln nx hp sa da true mv H.2.2.1 wr fa ins own num T l.length cT nd pf rt RV tg came own least wg).toArray) p76_11_18 hE wn_none tS32 rfl rfl rfl rfl B_gh (Nat.le_of_ble_eq_true rfl) rfl ?_)
       intro w32 B_gh' hk
       replace B_g1_22 := kp_blk B_g1_22 hk n_g1_22_gh
       replace K_0 := K_0.then_ hk (fun k h => by rw [show k = gh from h]; exact Or.inl rfl)
       replace B_gh := B_gh'
       clear hk
       refine ⟨trivial, ?_⟩
       refine Rv.dq (listed' := #[κ, κ, κ, κ, κ, κ, κ, κ, κ, κ, κ, κ, κ, κ, κ, κ, κ, κ, κ, κ]) (v := Value.int .i64 0) p76_11_19 ns76_11 hE wn_none trivial (fun W hS => (st_assign rfl)) ?_ (fun c a w h => hQ c a _ _ w h); clear hE a; intro a hE
       exact dr11_5 _ a (En.sub hE ⟨rfl, rfl, rfl, rfl, rfl, rfl, rfl, rfl, rfl, rfl, rfl, rfl, rfl, rfl, rfl, rfl, rfl, rfl, rfl, rfl, rfl, rfl, rfl, rfl, rfl, rfl, rfl, trivial⟩) B_gh B_g1_22 K_0
      exact all_nil
     have dr11_3 : ∀ (W : World) (a : Act), En 77 a [(0, Value.pointer (some ⟨gh, 0, none⟩)), (2, Value.int .i64 0), (3, Value.pointer (some ⟨g1_22, 0, none⟩)), (4, Value.int .i64 H.2.2.2), (5, Value.bool H.2.2.1), (29, Value.bool false), (38, Value.int .i64 H.1), (41, Value.bool false), (43, Value.bool false), (51, Value.pointer (some ⟨gh, 0, none⟩)), (52, Value.pointer (some ⟨gh, 0, none⟩)), (53, Value.pointer (some ⟨gh, 0, none⟩)), (54, Value.pointer (some ⟨gh, 0, none⟩)), (55, Value.pointer (some ⟨gh, 66, none⟩)), (56, Value.agg #[Value.bool dn, Value.bool wr, Value.bool fa, Value.int .i64 ins, Value.int .i64 rk]), (57, Value.pointer (some ⟨gh, 0, none⟩)), (58, Value.pointer (some ⟨gh, 0, none⟩)), (59, Value.pointer (some ⟨gh, 79, none⟩)), (60, Value.int .i64 own), (61, Value.bool H.2.2.1)] → W.heap[gh]? = some (.cells (HA cl fw ln nx hp sa da true mv dn wr fa ins rk num T l.length cT nd pf rt RV tg came own least wg).toArray 96 (0, 0)) → W.heap[g1_22]? = some (.cells #[Value.int .i64 H.1, Value.int .i64 H.2.1, Value.bool H.2.2.1] 191 (0, 0)) → Kp w W (fun k => k = gh) → wpAnyH Try.prog .any (regOf Try.f76 11) QQ (fun W => True) 9 #[κ, κ, κ, κ, κ, κ, κ, κ, κ, κ, κ, ι, ι, ι, ι, ι, ι, ι, ι, ι] a W := by
      intro w33 a hE B_gh B_g1_22 K_0
      refine d_all (rs := [11]) (by kernel_rfl) rfl ?_
      refine all_cons (d_lit (listed' := #[κ, κ, κ, κ, κ, κ, κ, κ, κ, κ, κ, κ, ι, ι, ι, ι, ι, ι, ι, ι]) rfl ?_) ?_
      ·
       refine (s_call (xs := [Operand.tmp 56, Operand.tmp 60, Operand.tmp 61]) (args := [Value.agg #[Value.bool dn, Value.bool wr, Value.bool fa, Value.int .i64 ins, Value.int .i64 rk], Value.int .i64 own, Value.bool H.2.2.1]) p76_11_11 hE wn_none rfl rfl Try.func114 cl114 (mark_any dn wr fa ins rk own H.2.2.1 hok ho _) ?_)
       rintro e w34 ⟨rfl, hk⟩
       replace B_gh := kp_blk B_gh hk (fun h => h)
       replace B_g1_22 := kp_blk B_g1_22 hk (fun h => h)
       replace K_0 := K_0.then_ hk (fun _ h => h.elim)
       refine ⟨_, rfl, ?_⟩; clear hE a; intro a hE
       refine ⟨trivial, ?_⟩
       refine Rv.dq (listed' := #[κ, κ, κ, κ, κ, κ, κ, κ, κ, κ, κ, κ, κ, ι, ι, ι, ι, ι, ι, ι]) (v := Value.tuple #[Value.agg #[Value.bool H.2.2.1, Value.bool wr, Value.bool fa, Value.int .i64 ins, Value.int .i64 own], Value.int .i64 0]) p76_11_12 ns76_11 hE wn_none trivial (fun W hS => (st_move rfl)) ?_ (fun c a w h => hQ c a _ _ w h); clear hE a; intro a hE
       refine Rv.dq (listed' := #[κ, κ, κ, κ, κ, κ, κ, κ, κ, κ, κ, κ, κ, κ, ι, ι, ι, ι, ι, ι]) (v := Value.agg #[Value.bool H.2.2.1, Value.bool wr, Value.bool fa, Value.int .i64 ins, Value.int .i64 own]) p76_11_13 ns76_11 hE wn_none trivial (fun W hS => (st_extract rfl rfl)) ?_ (fun c a w h => hQ c a _ _ w h); clear hE a; intro a hE
       refine Rv.dq (listed' := #[κ, κ, κ, κ, κ, κ, κ, κ, κ, κ, κ, κ, κ, κ, κ, ι, ι, ι, ι, ι]) (v := Value.int .i64 0) p76_11_14 ns76_11 hE wn_none trivial (fun W hS => (st_extract rfl rfl)) ?_ (fun c a w h => hQ c a _ _ w h); clear hE a; intro a hE
       refine Rv.dq (listed' := #[κ, κ, κ, κ, κ, κ, κ, κ, κ, κ, κ, κ, κ, κ, κ, κ, ι, ι, ι, ι]) (v := Value.pointer (some ⟨gh, 0, none⟩)) p76_11_15 ns76_11 hE wn_none trivial (fun W hS => (st_nil rfl)) ?_ (fun c a w h => hQ c a _ _ w h); clear hE a; intro a hE
       refine Rv.dq (listed' := #[κ, κ, κ, κ, κ, κ, κ, κ, κ, κ, κ, κ, κ, κ, κ, κ, κ, ι, ι, ι]) (v := Value.pointer (some ⟨gh, 0, none⟩)) p76_11_16 ns76_11 hE wn_none trivial (fun W hS => (st_fieldAddr Try.underlying96 rfl tS35 rfl rfl)) ?_ (fun c a w h => hQ c a _ _ w h); clear hE a; intro a hE
       refine Rv.dq (listed' := #[κ, κ, κ, κ, κ, κ, κ, κ, κ, κ, κ, κ, κ, κ, κ, κ, κ, κ, ι, ι]) (v := Value.pointer (some ⟨gh, 66, none⟩)) p76_11_17 ns76_11 hE wn_none trivial (fun W hS => (st_fieldAddr Try.underlying35 rfl tS32 rfl rfl)) ?_ (fun c a w h => hQ c a _ _ w h); clear hE a; intro a hE
       exact dr11_4 _ a (En.sub hE ⟨rfl, rfl, rfl, rfl, rfl, rfl, rfl, rfl, rfl, rfl, rfl, rfl, rfl, rfl, rfl, rfl, rfl, rfl, rfl, rfl, rfl, rfl, rfl, rfl, rfl, rfl, rfl, trivial⟩) B_gh B_g1_22 K_0
      exact all_nil
     have dr11_2 : ∀ (W : World) (a : Act), En 77 a [(0, Value.pointer (some ⟨gh, 0, none⟩)), (2, Value.int .i64 0), (3, Value.pointer (some ⟨g1_22, 0, none⟩)), (4, Value.int .i64 H.2.2.2), (5, Value.bool H.2.2.1), (29, Value.bool false), (38, Value.int .i64 H.1), (41, Value.bool false), (43, Value.bool false), (51, Value.pointer (some ⟨gh, 0, none⟩)), (52, Value.pointer (some ⟨gh, 0, none⟩)), (53, Value.pointer (some ⟨gh, 0, none⟩)), (54, Value.pointer (some ⟨gh, 0, none⟩)), (55, Value.pointer (some ⟨gh, 66, none⟩)), (57, Value.pointer (some ⟨gh, 0, none⟩)), (58, Value.pointer (some ⟨gh, 0, none⟩)), (59, Value.pointer (some ⟨gh, 79, none⟩)), (60, Value.int .i64 own), (61, Value.bool H.2.2.1)] → W.heap[gh]? = some (.cells (HA cl fw ln nx hp sa da true mv dn wr fa ins rk num T l.length cT nd pf rt RV tg came own least wg).toArray 96 (0, 0)) → W.heap[g1_22]? = some (.cells #[Value.int .i64 H.1, Value.int .i64 H.2.1, Value.bool H.2.2.1] 191 (0, 0)) → Kp w W (fun k => k = gh) → wpAnyH Try.prog .any (regOf Try.f76 11) QQ (fun W => True) 10 #[κ, κ, κ, κ, κ, ι, κ, κ, κ, κ, κ, ι, ι, ι, ι, ι, ι, ι, ι, ι] a W := by
      intro w35 a hE B_gh B_g1_22 K_0
      refine d_all (rs := [5]) (by kernel_rfl) rfl ?_
      refine all_cons (d_lit (listed' := #[κ, κ, κ, κ, κ, κ, κ, κ, κ, κ, κ, ι, ι, ι, ι, ι, ι, ι, ι, ι]) rfl ?_) ?_
      ·
       refine (s_still p76_11_5 hE wn_none rfl (st_loadN (off := 66) (k := 5) (vs := [Value.bool dn, Value.bool wr, Value.bool fa, Value.int .i64 ins, Value.int .i64 rk]) tA32 tS32 rfl B_gh rfl rfl) ?_); clear hE a; intro a hE
       refine ⟨trivial, ?_⟩
       exact dr11_3 _ a (En.sub hE ⟨rfl, rfl, rfl, rfl, rfl, rfl, rfl, rfl, rfl, rfl, rfl, rfl, rfl, rfl, rfl, rfl, rfl, rfl, rfl, rfl, trivial⟩) B_gh B_g1_22 K_0
      exact all_nil
     have dr11_1 : ∀ (W : World) (a : Act), En 77 a [(0, Value.pointer (some ⟨gh, 0, none⟩)), (2, Value.int .i64 0), (3, Value.pointer (some ⟨g1_22, 0, none⟩)), (4, Value.int .i64 H.2.2.2), (5, Value.bool H.2.2.1), (29, Value.bool false), (38, Value.int .i64 H.1), (41, Value.bool false), (43, Value.bool false), (51, Value.pointer (some ⟨gh, 0, none⟩)), (52, Value.pointer (some ⟨gh, 0, none⟩)), (53, Value.pointer (some ⟨gh, 0, none⟩)), (54, Value.pointer (some ⟨gh, 0, none⟩)), (55, Value.pointer (some ⟨gh, 66, none⟩)), (56, Value.agg #[Value.bool dn, Value.bool wr, Value.bool fa, Value.int .i64 ins, Value.int .i64 rk]), (57, Value.pointer (some ⟨gh, 0, none⟩)), (58, Value.pointer (some ⟨gh, 0, none⟩)), (59, Value.pointer (some ⟨gh, 79, none⟩)), (61, Value.bool H.2.2.1)] → W.heap[gh]? = some (.cells (HA cl fw ln nx hp sa da true mv dn wr fa ins rk num T l.length cT nd pf rt RV tg came own least wg).toArray 96 (0, 0)) → W.heap[g1_22]? = some (.cells #[Value.int .i64 H.1, Value.int .i64 H.2.1, Value.bool H.2.2.1] 191 (0, 0)) → Kp w W (fun k => k = gh) → wpAnyH Try.prog .any (regOf Try.f76 11) QQ (fun W => True) 10 #[κ, κ, κ, κ, κ, κ, κ, κ, κ, ι, κ, ι, ι, ι, ι, ι, ι, ι, ι, ι] a W := by
      intro w36 a hE B_gh B_g1_22 K_0
      refine d_all (rs := [9]) (by kernel_rfl) rfl ?_
      refine all_cons (d_lit (listed' := #[κ, κ, κ, κ, κ, κ, κ, κ, κ, κ, κ, ι, ι, ι, ι, ι, ι, ι, ι, ι]) rfl ?_) ?_
      ·
       refine (s_still p76_11_9 hE wn_none rfl (st_load1 tA3 rfl ((blk_cell B_gh 79).trans rfl)) ?_); clear hE a; intro a hE
       refine ⟨trivial, ?_⟩
       exact dr11_3 _ a (En.sub hE ⟨rfl, rfl, rfl, rfl, rfl, rfl, rfl, rfl, rfl, rfl, rfl, rfl, rfl, rfl, rfl, rfl, rfl, rfl, rfl, rfl, trivial⟩) B_gh B_g1_22 K_0
      exact all_nil
     have dr11_0 : ∀ (W : World) (a : Act), En 77 a [(0, Value.pointer (some ⟨gh, 0, none⟩)), (2, Value.int .i64 0), (3, Value.pointer (some ⟨g1_22, 0, none⟩)), (4, Value.int .i64 H.2.2.2), (5, Value.bool H.2.2.1), (29, Value.bool false), (38, Value.int .i64 H.1), (41, Value.bool false), (43, Value.bool false), (51, Value.pointer (some ⟨gh, 0, none⟩)), (52, Value.pointer (some ⟨gh, 0, none⟩)), (53, Value.pointer (some ⟨gh, 0, none⟩)), (54, Value.pointer (some ⟨gh, 0, none⟩)), (55, Value.pointer (some ⟨gh, 66, none⟩)), (57, Value.pointer (some ⟨gh, 0, none⟩)), (58, Value.pointer (some ⟨gh, 0, none⟩)), (59, Value.pointer (some ⟨gh, 79, none⟩)), (61, Value.bool H.2.2.1)] → W.heap[gh]? = some (.cells (HA cl fw ln nx hp sa da true mv dn wr fa ins rk num T l.length cT nd pf rt RV tg came own least wg).toArray 96 (0, 0)) → W.heap[g1_22]? = some (.cells #[Value.int .i64 H.1, Value.int .i64 H.2.1, Value.bool H.2.2.1] 191 (0, 0)) → Kp w W (fun k => k = gh) → wpAnyH Try.prog .any (regOf Try.f76 11) QQ (fun W => True) 11 #[κ, κ, κ, κ, κ, ι, κ, κ, κ, ι, κ, ι, ι, ι, ι, ι, ι, ι, ι, ι] a W := by
      intro w37 a hE B_gh B_g1_22 K_0
      refine d_all (rs := [5, 9]) (by kernel_rfl) rfl ?_
      refine all_cons (d_lit (listed' := #[κ, κ, κ, κ, κ, κ, κ, κ, κ, ι, κ, ι, ι, ι, ι, ι, ι, ι, ι, ι]) rfl ?_) ?_
      ·
       refine (s_still p76_11_5 hE wn_none rfl (st_loadN (off := 66) (k := 5) (vs := [Value.bool dn, Value.bool wr, Value.bool fa, Value.int .i64 ins, Value.int .i64 rk]) tA32 tS32 rfl B_gh rfl rfl) ?_); clear hE a; intro a hE
       refine ⟨trivial, ?_⟩
       exact dr11_1 _ a (En.sub hE ⟨rfl, rfl, rfl, rfl, rfl, rfl, rfl, rfl, rfl, rfl, rfl, rfl, rfl, rfl, rfl, rfl, rfl, rfl, rfl, trivial⟩) B_gh B_g1_22 K_0
      refine all_cons (d_lit (listed' := #[κ, κ, κ, κ, κ, ι, κ, κ, κ, κ, κ, ι, ι, ι, ι, ι, ι, ι, ι, ι]) rfl ?_) ?_
      ·
       refine (s_still p76_11_9 hE wn_none rfl (st_load1 tA3 rfl ((blk_cell B_gh 79).trans rfl)) ?_); clear hE a; intro a hE
       refine ⟨trivial, ?_⟩
       exact dr11_2 _ a (En.sub hE ⟨rfl, rfl, rfl, rfl, rfl, rfl, rfl, rfl, rfl, rfl, rfl, rfl, rfl, rfl, rfl, rfl, rfl, rfl, rfl, trivial⟩) B_gh B_g1_22 K_0
      exact all_nil
     intro w26 hh hk
     replace B_gh := kp_blk B_gh hk (fun h => h)
     replace B_g1_22 := kp_blk B_g1_22 hk (fun h => h)
     replace K_0 := K_0.then_ hk (fun _ h => h.elim)
     clear hh hk
     refine Rv.dq (listed' := #[κ, ι, ι, ι, ι, ι, ι, ι, ι, ι, ι, ι, ι, ι, ι, ι, ι, ι, ι, ι]) (v := Value.pointer (some ⟨gh, 0, none⟩)) p76_11_0 ns76_11 hE wn_none trivial (fun W hS => (st_move rfl)) ?_ (fun c a w h => hQ c a _ _ w h); clear hE a; intro a hE
     refine Rv.dq (listed' := #[κ, κ, ι, ι, ι, ι, ι, ι, ι, ι, ι, ι, ι, ι, ι, ι, ι, ι, ι, ι]) (v := Value.pointer (some ⟨gh, 0, none⟩)) p76_11_1 ns76_11 hE wn_none trivial (fun W hS => (st_move rfl)) ?_ (fun c a w h => hQ c a _ _ w h); clear hE a; intro a hE
     refine Rv.dq (listed' := #[κ, κ, κ, ι, ι, ι, ι, ι, ι, ι, ι, ι, ι, ι, ι, ι, ι, ι, ι, ι]) (v := Value.pointer (some ⟨gh, 0, none⟩)) p76_11_2 ns76_11 hE wn_none trivial (fun W hS => (st_nil rfl)) ?_ (fun c a w h => hQ c a _ _ w h); clear hE a; intro a hE
     refine Rv.dq (listed' := #[κ, κ, κ, κ, ι, ι, ι, ι, ι, ι, ι, ι, ι, ι, ι, ι, ι, ι, ι, ι]) (v := Value.pointer (some ⟨gh, 0, none⟩)) p76_11_3 ns76_11 hE wn_none trivial (fun W hS => (st_fieldAddr Try.underlying96 rfl tS35 rfl rfl)) ?_ (fun c a w h => hQ c a _ _ w h); clear hE a; intro a hE
     refine Rv.dq (listed' := #[κ, κ, κ, κ, κ, ι, ι, ι, ι, ι, ι, ι, ι, ι, ι, ι, ι, ι, ι, ι]) (v := Value.pointer (some ⟨gh, 66, none⟩)) p76_11_4 ns76_11 hE wn_none trivial (fun W hS => (st_fieldAddr Try.underlying35 rfl tS32 rfl rfl)) ?_ (fun c a w h => hQ c a _ _ w h); clear hE a; intro a hE
     refine Rv.dq (listed' := #[κ, κ, κ, κ, κ, ι, κ, ι, ι, ι, ι, ι, ι, ι, ι, ι, ι, ι, ι, ι]) (v := Value.pointer (some ⟨gh, 0, none⟩)) p76_11_6 ns76_11 hE wn_none trivial (fun W hS => (st_move rfl)) ?_ (fun c a w h => hQ c a _ _ w h); clear hE a; intro a hE
     refine Rv.dq (listed' := #[κ, κ, κ, κ, κ, ι, κ, κ, ι, ι, ι, ι, ι, ι, ι, ι, ι, ι, ι, ι]) (v := Value.pointer (some ⟨gh, 0, none⟩)) p76_11_7 ns76_11 hE wn_none trivial (fun W hS => (st_nil rfl)) ?_ (fun c a w h => hQ c a _ _ w h); clear hE a; intro a hE
     refine Rv.dq (listed' := #[κ, κ, κ, κ, κ, ι, κ, κ, κ, ι, ι, ι, ι, ι, ι, ι, ι, ι, ι, ι]) (v := Value.pointer (some ⟨gh, 79, none⟩)) p76_11_8 ns76_11 hE wn_none trivial (fun W hS => (st_fieldAddr Try.underlying96 rfl tS3 rfl rfl)) ?_ (fun c a w h => hQ c a _ _ w h); clear hE a; intro a hE
     refine Rv.dq (listed' := #[κ, κ, κ, κ, κ, ι, κ, κ, κ, ι, κ, ι, ι, ι, ι, ι, ι, ι, ι, ι]) (v := Value.bool H.2.2.1) p76_11_10 ns76_11 hE wn_none trivial (fun W hS => (st_move rfl)) ?_ (fun c a w h => hQ c a _ _ w h); clear hE a; intro a hE
     exact dr11_0 _ a (En.sub hE ⟨rfl, rfl, rfl, rfl, rfl, rfl, rfl, rfl, rfl, rfl, rfl, rfl, rfl, rfl, rfl, rfl, rfl, rfl, trivial⟩) B_gh B_g1_22 K_0
  ·
   refine p_cons (s_still (v := Value.bool true) (pl P76_2 1) hE wn_none rfl (st_neq rfl rfl (by rw [decide_eq_false hc10]; rfl)) ?_); clear hE a; intro a hE
   refine p_nil (x_norm ?_)
   refine c_cond (t := true) hE rfl ?_
   refine c_reg R76_3_l ?_
   refine qn hE (rc (pl P76_3 0) (st_move rfl) (rc (pl P76_3 1) (st_assign rfl) rn)) ?_; clear hE a; intro a hE
   refine p_nil (x_norm (wp_ret (x_ret ?_)))
   refine ret_one (v := Value.int .i64 H.2.2.2) rfl hE (.tmp rfl .nil) ?_
   have h9 := h1 (by rw [hH]; exact hc10) _ K_0
   rw [hH] at h9
   exact h9
 have dr1_3 : ∀ (g1_22 : Nat) (W : World) (a : Act), En 77 a [(0, Value.pointer (some ⟨gh, 0, none⟩)), (2, Value.int .i64 0), (3, Value.pointer (some ⟨g1_22, 0, none⟩)), (6, Value.tuple #[Value.agg #[Value.int .i64 H.1, Value.int .i64 H.2.1, Value.bool H.2.2.1], Value.int .i64 H.2.2.2]), (7, Value.pointer (some ⟨gh, 0, none⟩)), (8, Value.pointer (some ⟨gh, 0, none⟩)), (9, Value.pointer (some ⟨gh, 73, none⟩)), (10, Value.agg #[Value.int .i64 nd, Value.int .i64 pf, Value.bool rt, RV]), (11, Value.pointer (some ⟨gh, 0, none⟩)), (12, Value.pointer (some ⟨gh, 0, none⟩)), (13, Value.pointer (some ⟨gh, 77, none⟩)), (14, Value.int .i64 tg), (15, Value.pointer (some ⟨gh, 0, none⟩)), (16, Value.pointer (some ⟨gh, 0, none⟩)), (17, Value.pointer (some ⟨gh, 78, none⟩)), (18, Value.int .i64 came), (19, Value.pointer (some ⟨gh, 0, none⟩)), (20, Value.pointer (some ⟨gh, 0, none⟩)), (21, Value.pointer (some ⟨gh, 0, none⟩)), (22, Value.pointer (some ⟨gh, 66, none⟩)), (23, Value.pointer (some ⟨gh, 66, none⟩)), (24, Value.bool dn), (25, Value.tuple #[Value.agg #[Value.int .i64 H.1, Value.int .i64 H.2.1, Value.bool H.2.2.1], Value.int .i64 H.2.2.2]), (26, Value.agg #[Value.int .i64 H.1, Value.int .i64 H.2.1, Value.bool H.2.2.1]), (27, Value.int .i64 H.2.2.2)] → W.heap[gh]? = some (.cells (HA cl fw ln nx hp sa da true mv dn wr fa ins rk num T l.length cT nd pf rt RV tg came own least wg).toArray 96 (0, 0)) → W.heap[g1_22]? = some (.cells #[Value.int .i64 0, Value.int .i64 0, Value.bool false] 191 (0, 0)) → g1_22 ≠ gh → w.heap.size ≤ g1_22 → Kp w W (fun k => k = gh) → wpAnyH Try.prog .any (regOf Try.f76 1) QQ (fun W => W.heap[gh]? = some (.cells (HA cl fw ln nx hp sa da true mv dn wr fa ins rk num T l.length cT nd pf rt RV tg came own least wg).toArray 96 (0, 0)) ∧ True) 2 #[κ, κ, κ, κ, κ, κ, κ, κ, κ, κ, κ, κ, κ, κ, κ, κ, κ, κ, κ, κ, κ, κ, κ, ι, ι] a W := by
  intro g1_22 w38 a hE B_gh B_g1_22 n_g1_22_gh z_0_g1_22 K_0
  refine d_all (rs := [23]) (by kernel_rfl) rfl ?_
  refine all_cons (d_lit (listed' := #[κ, κ, κ, κ, κ, κ, κ, κ, κ, κ, κ, κ, κ, κ, κ, κ, κ, κ, κ, κ, κ, κ, κ, κ, ι]) rfl ?_) ?_
  ·
   refine (s_store (off := 0) (k := 3) (cs' := #[Value.int .i64 H.1, Value.int .i64 H.2.1, Value.bool H.2.2.1]) p76_1_23 hE wn_none tS191 rfl rfl rfl rfl B_g1_22 (Nat.le_of_ble_eq_true rfl) rfl ?_)
   intro w39 B_g1_22' hk
   replace B_gh := kp_blk B_gh hk (Ne.symm n_g1_22_gh)
   replace K_0 := K_0.then_ hk (fun k h => by rw [show k = g1_22 from h]; exact Or.inr z_0_g1_22)
   replace B_g1_22 := B_g1_22'
   clear hk
   refine ⟨⟨B_gh, trivial⟩, ?_⟩
   refine Rv.dq (listed' := #[κ, κ, κ, κ, κ, κ, κ, κ, κ, κ, κ, κ, κ, κ, κ, κ, κ, κ, κ, κ, κ, κ, κ, κ, κ]) (v := Value.int .i64 H.2.2.2) p76_1_24 ns76_1 hE wn_none ⟨B_gh, trivial⟩ (fun W hS => (st_assign rfl)) ?_ (fun c a w h => hQ c a _ _ w h); clear hE a; intro a hE
   exact dr1_4 g1_22 _ a (En.sub hE ⟨rfl, rfl, rfl, rfl, rfl, rfl, rfl, rfl, rfl, rfl, rfl, rfl, rfl, rfl, rfl, rfl, rfl, rfl, rfl, rfl, rfl, rfl, rfl, rfl, rfl, rfl, trivial⟩) B_gh B_g1_22 n_g1_22_gh z_0_g1_22 K_0
  exact all_nil
 have dr1_2 : ∀ (W : World) (a : Act), En 77 a [(0, Value.pointer (some ⟨gh, 0, none⟩)), (2, Value.int .i64 0), (6, Value.tuple #[Value.agg #[Value.int .i64 H.1, Value.int .i64 H.2.1, Value.bool H.2.2.1], Value.int .i64 H.2.2.2]), (7, Value.pointer (some ⟨gh, 0, none⟩)), (8, Value.pointer (some ⟨gh, 0, none⟩)), (9, Value.pointer (some ⟨gh, 73, none⟩)), (10, Value.agg #[Value.int .i64 nd, Value.int .i64 pf, Value.bool rt, RV]), (11, Value.pointer (some ⟨gh, 0, none⟩)), (12, Value.pointer (some ⟨gh, 0, none⟩)), (13, Value.pointer (some ⟨gh, 77, none⟩)), (14, Value.int .i64 tg), (15, Value.pointer (some ⟨gh, 0, none⟩)), (16, Value.pointer (some ⟨gh, 0, none⟩)), (17, Value.pointer (some ⟨gh, 78, none⟩)), (18, Value.int .i64 came), (19, Value.pointer (some ⟨gh, 0, none⟩)), (20, Value.pointer (some ⟨gh, 0, none⟩)), (21, Value.pointer (some ⟨gh, 0, none⟩)), (22, Value.pointer (some ⟨gh, 66, none⟩)), (23, Value.pointer (some ⟨gh, 66, none⟩)), (24, Value.bool dn), (25, Value.tuple #[Value.agg #[Value.int .i64 H.1, Value.int .i64 H.2.1, Value.bool H.2.2.1], Value.int .i64 H.2.2.2]), (26, Value.agg #[Value.int .i64 H.1, Value.int .i64 H.2.1, Value.bool H.2.2.1]), (27, Value.int .i64 H.2.2.2)] → W.heap[gh]? = some (.cells (HA cl fw ln nx hp sa da true mv dn wr fa ins rk num T l.length cT nd pf rt RV tg came own least wg).toArray 96 (0, 0)) → Kp w W (fun k => k = gh) → wpAnyH Try.prog .any (regOf Try.f76 1) QQ (fun W => W.heap[gh]? = some (.cells (HA cl fw ln nx hp sa da true mv dn wr fa ins rk num T l.length cT nd pf rt RV tg came own least wg).toArray 96 (0, 0)) ∧ True) 3 #[κ, κ, κ, κ, κ, κ, κ, κ, κ, κ, κ, κ, κ, κ, κ, κ, κ, κ, κ, κ, κ, κ, ι, ι, ι] a W := by
  intro w40 a hE B_gh K_0
  refine d_all (rs := [22]) (by kernel_rfl) rfl ?_
  refine all_cons (d_lit (listed' := #[κ, κ, κ, κ, κ, κ, κ, κ, κ, κ, κ, κ, κ, κ, κ, κ, κ, κ, κ, κ, κ, κ, κ, ι, ι]) rfl ?_) ?_
  ·
   refine (s_alloc p76_1_22 hE wn_none rfl tZ191 ?_)
   clear hE a; intro g1_22 w41 z42 B_g1_22 hk a hE
   replace B_g1_22 : w41.heap[g1_22]? = some (.cells #[Value.int .i64 0, Value.int .i64 0, Value.bool false] 191 (0, 0)) := B_g1_22
   have n_gh_g1_22 : gh ≠ g1_22 := ne_new B_gh z42
   have z_0_g1_22 := Nat.le_trans K_0.kept.1 z42
   replace B_gh := kp_blk B_gh hk (fun h => h)
   replace K_0 := K_0.then_ hk (fun _ h => h.elim)
   clear hk
   refine ⟨⟨B_gh, trivial⟩, ?_⟩
   have n_g1_22_gh := Ne.symm n_gh_g1_22
   exact dr1_3 g1_22 _ a (En.sub hE ⟨rfl, rfl, rfl, rfl, rfl, rfl, rfl, rfl, rfl, rfl, rfl, rfl, rfl, rfl, rfl, rfl, rfl, rfl, rfl, rfl, rfl, rfl, rfl, rfl, rfl, trivial⟩) B_gh B_g1_22 n_g1_22_gh z_0_g1_22 K_0
  exact all_nil
 have dr1_1 : ∀ (g1_22 : Nat) (W : World) (a : Act), En 77 a [(0, Value.pointer (some ⟨gh, 0, none⟩)), (2, Value.int .i64 0), (3, Value.pointer (some ⟨g1_22, 0, none⟩)), (7, Value.pointer (some ⟨gh, 0, none⟩)), (8, Value.pointer (some ⟨gh, 0, none⟩)), (9, Value.pointer (some ⟨gh, 73, none⟩)), (10, Value.agg #[Value.int .i64 nd, Value.int .i64 pf, Value.bool rt, RV]), (11, Value.pointer (some ⟨gh, 0, none⟩)), (12, Value.pointer (some ⟨gh, 0, none⟩)), (13, Value.pointer (some ⟨gh, 77, none⟩)), (14, Value.int .i64 tg), (15, Value.pointer (some ⟨gh, 0, none⟩)), (16, Value.pointer (some ⟨gh, 0, none⟩)), (17, Value.pointer (some ⟨gh, 78, none⟩)), (18, Value.int .i64 came), (19, Value.pointer (some ⟨gh, 0, none⟩)), (20, Value.pointer (some ⟨gh, 0, none⟩)), (21, Value.pointer (some ⟨gh, 0, none⟩)), (22, Value.pointer (some ⟨gh, 66, none⟩)), (23, Value.pointer (some ⟨gh, 66, none⟩)), (24, Value.bool dn)] → W.heap[gh]? = some (.cells (HA cl fw ln nx hp sa da true mv dn wr fa ins rk num T l.length cT nd pf rt RV tg came own least wg).toArray 96 (0, 0)) → W.heap[g1_22]? = some (.cells #[Value.int .i64 0, Value.int .i64 0, Value.bool false] 191 (0, 0)) → g1_22 ≠ gh → w.heap.size ≤ g1_22 → Kp w W (fun k => k = gh) → wpAnyH Try.prog .any (regOf Try.f76 1) QQ (fun W => W.heap[gh]? = some (.cells (HA cl fw ln nx hp sa da true mv dn wr fa ins rk num T l.length cT nd pf rt RV tg came own least wg).toArray 96 (0, 0)) ∧ True) 6 #[κ, κ, κ, κ, κ, κ, κ, κ, κ, κ, κ, κ, κ, κ, κ, κ, κ, κ, ι, ι, ι, ι, κ, ι, ι] a W := by
  intro g1_22 w43 a hE B_gh B_g1_22 n_g1_22_gh z_0_g1_22 K_0
  refine d_all (rs := [18]) (by kernel_rfl) rfl ?_
  refine all_cons (d_lit (listed' := #[κ, κ, κ, κ, κ, κ, κ, κ, κ, κ, κ, κ, κ, κ, κ, κ, κ, κ, κ, ι, ι, ι, κ, ι, ι]) rfl ?_) ?_
  ·
   have hct := next_any nd pf rt RV v g er tg came dn w43 (hT.at K_0 (fun k h => h.elim))
   rw [show nextF nd pf rt (v tg) tg came dn = H from hH, show hopV H = Value.tuple #[Value.agg #[Value.int .i64 H.1, Value.int .i64 H.2.1, Value.bool H.2.2.1], Value.int .i64 H.2.2.2] from rfl] at hct
   refine (s_call (xs := [Operand.tmp 10, Operand.tmp 14, Operand.tmp 18, Operand.tmp 24]) (args := [Value.agg #[Value.int .i64 nd, Value.int .i64 pf, Value.bool rt, RV], Value.int .i64 tg, Value.int .i64 came, Value.bool dn]) p76_1_18 hE wn_none rfl rfl Try.func113 cl113 (hct) ?_)
   rintro e w44 ⟨rfl, hk⟩
   replace B_gh := kp_blk B_gh hk (fun h => h)
   replace B_g1_22 := kp_blk B_g1_22 hk (fun h => h)
   replace K_0 := K_0.then_ hk (fun _ h => h.elim)
   refine ⟨_, rfl, ?_⟩; clear hE a; intro a hE
   refine ⟨⟨B_gh, trivial⟩, ?_⟩
   refine Rv.dq (listed' := #[κ, κ, κ, κ, κ, κ, κ, κ, κ, κ, κ, κ, κ, κ, κ, κ, κ, κ, κ, κ, ι, ι, κ, ι, ι]) (v := Value.tuple #[Value.agg #[Value.int .i64 H.1, Value.int .i64 H.2.1, Value.bool H.2.2.1], Value.int .i64 H.2.2.2]) p76_1_19 ns76_1 hE wn_none ⟨B_gh, trivial⟩ (fun W hS => (st_move rfl)) ?_ (fun c a w h => hQ c a _ _ w h); clear hE a; intro a hE
   refine Rv.dq (listed' := #[κ, κ, κ, κ, κ, κ, κ, κ, κ, κ, κ, κ, κ, κ, κ, κ, κ, κ, κ, κ, κ, ι, κ, ι, ι]) (v := Value.agg #[Value.int .i64 H.1, Value.int .i64 H.2.1, Value.bool H.2.2.1]) p76_1_20 ns76_1 hE wn_none ⟨B_gh, trivial⟩ (fun W hS => (st_extract rfl rfl)) ?_ (fun c a w h => hQ c a _ _ w h); clear hE a; intro a hE
   refine Rv.dq (listed' := #[κ, κ, κ, κ, κ, κ, κ, κ, κ, κ, κ, κ, κ, κ, κ, κ, κ, κ, κ, κ, κ, κ, κ, ι, ι]) (v := Value.int .i64 H.2.2.2) p76_1_21 ns76_1 hE wn_none ⟨B_gh, trivial⟩ (fun W hS => (st_extract rfl rfl)) ?_ (fun c a w h => hQ c a _ _ w h); clear hE a; intro a hE
   exact dr1_3 g1_22 _ a (En.sub hE ⟨rfl, rfl, rfl, rfl, rfl, rfl, rfl, rfl, rfl, rfl, rfl, rfl, rfl, rfl, rfl, rfl, rfl, rfl, rfl, rfl, rfl, rfl, rfl, rfl, rfl, trivial⟩) B_gh B_g1_22 n_g1_22_gh z_0_g1_22 K_0
  exact all_nil
 have dr1_0 : ∀ (W : World) (a : Act), En 77 a [(0, Value.pointer (some ⟨gh, 0, none⟩)), (2, Value.int .i64 0), (7, Value.pointer (some ⟨gh, 0, none⟩)), (8, Value.pointer (some ⟨gh, 0, none⟩)), (9, Value.pointer (some ⟨gh, 73, none⟩)), (10, Value.agg #[Value.int .i64 nd, Value.int .i64 pf, Value.bool rt, RV]), (11, Value.pointer (some ⟨gh, 0, none⟩)), (12, Value.pointer (some ⟨gh, 0, none⟩)), (13, Value.pointer (some ⟨gh, 77, none⟩)), (14, Value.int .i64 tg), (15, Value.pointer (some ⟨gh, 0, none⟩)), (16, Value.pointer (some ⟨gh, 0, none⟩)), (17, Value.pointer (some ⟨gh, 78, none⟩)), (18, Value.int .i64 came), (19, Value.pointer (some ⟨gh, 0, none⟩)), (20, Value.pointer (some ⟨gh, 0, none⟩)), (21, Value.pointer (some ⟨gh, 0, none⟩)), (22, Value.pointer (some ⟨gh, 66, none⟩)), (23, Value.pointer (some ⟨gh, 66, none⟩)), (24, Value.bool dn)] → W.heap[gh]? = some (.cells (HA cl fw ln nx hp sa da true mv dn wr fa ins rk num T l.length cT nd pf rt RV tg came own least wg).toArray 96 (0, 0)) → Kp w W (fun k => k = gh) → wpAnyH Try.prog .any (regOf Try.f76 1) QQ (fun W => W.heap[gh]? = some (.cells (HA cl fw ln nx hp sa da true mv dn wr fa ins rk num T l.length cT nd pf rt RV tg came own least wg).toArray 96 (0, 0)) ∧ True) 7 #[κ, κ, κ, κ, κ, κ, κ, κ, κ, κ, κ, κ, κ, κ, κ, κ, κ, κ, ι, ι, ι, ι, ι, ι, ι] a W := by
  intro w45 a hE B_gh K_0
  refine d_all (rs := [18, 22]) (by kernel_rfl) rfl ?_
  refine all_cons (d_lit (listed' := #[κ, κ, κ, κ, κ, κ, κ, κ, κ, κ, κ, κ, κ, κ, κ, κ, κ, κ, κ, ι, ι, ι, ι, ι, ι]) rfl ?_) ?_
  ·
   have hct := next_any nd pf rt RV v g er tg came dn w45 (hT.at K_0 (fun k h => h.elim))
   rw [show nextF nd pf rt (v tg) tg came dn = H from hH, show hopV H = Value.tuple #[Value.agg #[Value.int .i64 H.1, Value.int .i64 H.2.1, Value.bool H.2.2.1], Value.int .i64 H.2.2.2] from rfl] at hct
   refine (s_call (xs := [Operand.tmp 10, Operand.tmp 14, Operand.tmp 18, Operand.tmp 24]) (args := [Value.agg #[Value.int .i64 nd, Value.int .i64 pf, Value.bool rt, RV], Value.int .i64 tg, Value.int .i64 came, Value.bool dn]) p76_1_18 hE wn_none rfl rfl Try.func113 cl113 (hct) ?_)
   rintro e w46 ⟨rfl, hk⟩
   replace B_gh := kp_blk B_gh hk (fun h => h)
   replace K_0 := K_0.then_ hk (fun _ h => h.elim)
   refine ⟨_, rfl, ?_⟩; clear hE a; intro a hE
   refine ⟨⟨B_gh, trivial⟩, ?_⟩
   refine Rv.dq (listed' := #[κ, κ, κ, κ, κ, κ, κ, κ, κ, κ, κ, κ, κ, κ, κ, κ, κ, κ, κ, κ, ι, ι, ι, ι, ι]) (v := Value.tuple #[Value.agg #[Value.int .i64 H.1, Value.int .i64 H.2.1, Value.bool H.2.2.1], Value.int .i64 H.2.2.2]) p76_1_19 ns76_1 hE wn_none ⟨B_gh, trivial⟩ (fun W hS => (st_move rfl)) ?_ (fun c a w h => hQ c a _ _ w h); clear hE a; intro a hE
   refine Rv.dq (listed' := #[κ, κ, κ, κ, κ, κ, κ, κ, κ, κ, κ, κ, κ, κ, κ, κ, κ, κ, κ, κ, κ, ι, ι, ι, ι]) (v := Value.agg #[Value.int .i64 H.1, Value.int .i64 H.2.1, Value.bool H.2.2.1]) p76_1_20 ns76_1 hE wn_none ⟨B_gh, trivial⟩ (fun W hS => (st_extract rfl rfl)) ?_ (fun c a w h => hQ c a _ _ w h); clear hE a; intro a hE
   refine Rv.dq (listed' := #[κ, κ, κ, κ, κ, κ, κ, κ, κ, κ, κ, κ, κ, κ, κ, κ, κ, κ, κ, κ, κ, κ, ι, ι, ι]) (v := Value.int .i64 H.2.2.2) p76_1_21 ns76_1 hE wn_none ⟨B_gh, trivial⟩ (fun W hS => (st_extract rfl rfl)) ?_ (fun c a w h => hQ c a _ _ w h); clear hE a; intro a hE
   exact dr1_2 _ a (En.sub hE ⟨rfl, rfl, rfl, rfl, rfl, rfl, rfl, rfl, rfl, rfl, rfl, rfl, rfl, rfl, rfl, rfl, rfl, rfl, rfl, rfl, rfl, rfl, rfl, rfl, trivial⟩) B_gh K_0
  refine all_cons (d_lit (listed' := #[κ, κ, κ, κ, κ, κ, κ, κ, κ, κ, κ, κ, κ, κ, κ, κ, κ, κ, ι, ι, ι, ι, κ, ι, ι]) rfl ?_) ?_
  ·
   refine (s_alloc p76_1_22 hE wn_none rfl tZ191 ?_)
   clear hE a; intro g1_22 w47 z48 B_g1_22 hk a hE
   replace B_g1_22 : w47.heap[g1_22]? = some (.cells #[Value.int .i64 0, Value.int .i64 0, Value.bool false] 191 (0, 0)) := B_g1_22
   have n_gh_g1_22 : gh ≠ g1_22 := ne_new B_gh z48
   have z_0_g1_22 := Nat.le_trans K_0.kept.1 z48
   replace B_gh := kp_blk B_gh hk (fun h => h)
   replace K_0 := K_0.then_ hk (fun _ h => h.elim)
   clear hk
   refine ⟨⟨B_gh, trivial⟩, ?_⟩
   have n_g1_22_gh := Ne.symm n_gh_g1_22
   exact dr1_1 g1_22 _ a (En.sub hE ⟨rfl, rfl, rfl, rfl, rfl, rfl, rfl, rfl, rfl, rfl, rfl, rfl, rfl, rfl, rfl, rfl, rfl, rfl, rfl, rfl, rfl, trivial⟩) B_gh B_g1_22 n_g1_22_gh z_0_g1_22 K_0
  exact all_nil
 intro w1 hh hk
 replace B_gh := kp_blk B_gh hk (fun h => h)
 replace K_0 := K_0.then_ hk (fun _ h => h.elim)
 clear hh hk
 refine Rv.dq (listed' := #[κ, ι, ι, ι, ι, ι, ι, ι, ι, ι, ι, ι, ι, ι, ι, ι, ι, ι, ι, ι, ι, ι, ι, ι, ι]) (v := Value.pointer (some ⟨gh, 0, none⟩)) p76_1_0 ns76_1 hE wn_none ⟨B_gh, trivial⟩ (fun W hS => (st_move rfl)) ?_ (fun c a w h => hQ c a _ _ w h); clear hE a; intro a hE
 refine Rv.dq (listed' := #[κ, κ, ι, ι, ι, ι, ι, ι, ι, ι, ι, ι, ι, ι, ι, ι, ι, ι, ι, ι, ι, ι, ι, ι, ι]) (v := Value.pointer (some ⟨gh, 0, none⟩)) p76_1_1 ns76_1 hE wn_none ⟨B_gh, trivial⟩ (fun W hS => (st_nil rfl)) ?_ (fun c a w h => hQ c a _ _ w h); clear hE a; intro a hE
 refine Rv.dq (listed' := #[κ, κ, κ, ι, ι, ι, ι, ι, ι, ι, ι, ι, ι, ι, ι, ι, ι, ι, ι, ι, ι, ι, ι, ι, ι]) (v := Value.pointer (some ⟨gh, 73, none⟩)) p76_1_2 ns76_1 hE wn_none ⟨B_gh, trivial⟩ (fun W hS => (st_fieldAddr Try.underlying96 rfl tS41 rfl rfl)) ?_ (fun c a w h => hQ c a _ _ w h); clear hE a; intro a hE
 refine Rv.dq (listed' := #[κ, κ, κ, κ, ι, ι, ι, ι, ι, ι, ι, ι, ι, ι, ι, ι, ι, ι, ι, ι, ι, ι, ι, ι, ι]) (v := Value.agg #[Value.int .i64 nd, Value.int .i64 pf, Value.bool rt, RV]) p76_1_3 ns76_1 hE wn_none ⟨B_gh, trivial⟩ (fun W hS => (st_loadN (off := 73) (k := 4) (vs := [Value.int .i64 nd, Value.int .i64 pf, Value.bool rt, RV]) tA41 tS41 rfl hS.1 rfl rfl)) ?_ (fun c a w h => hQ c a _ _ w h); clear hE a; intro a hE
 refine Rv.dq (listed' := #[κ, κ, κ, κ, κ, ι, ι, ι, ι, ι, ι, ι, ι, ι, ι, ι, ι, ι, ι, ι, ι, ι, ι, ι, ι]) (v := Value.pointer (some ⟨gh, 0, none⟩)) p76_1_4 ns76_1 hE wn_none ⟨B_gh, trivial⟩ (fun W hS => (st_move rfl)) ?_ (fun c a w h => hQ c a _ _ w h); clear hE a; intro a hE
 refine Rv.dq (listed' := #[κ, κ, κ, κ, κ, κ, ι, ι, ι, ι, ι, ι, ι, ι, ι, ι, ι, ι, ι, ι, ι, ι, ι, ι, ι]) (v := Value.pointer (some ⟨gh, 0, none⟩)) p76_1_5 ns76_1 hE wn_none ⟨B_gh, trivial⟩ (fun W hS => (st_nil rfl)) ?_ (fun c a w h => hQ c a _ _ w h); clear hE a; intro a hE
 refine Rv.dq (listed' := #[κ, κ, κ, κ, κ, κ, κ, ι, ι, ι, ι, ι, ι, ι, ι, ι, ι, ι, ι, ι, ι, ι, ι, ι, ι]) (v := Value.pointer (some ⟨gh, 77, none⟩)) p76_1_6 ns76_1 hE wn_none ⟨B_gh, trivial⟩ (fun W hS => (st_fieldAddr Try.underlying96 rfl tS3 rfl rfl)) ?_ (fun c a w h => hQ c a _ _ w h); clear hE a; intro a hE
 refine Rv.dq (listed' := #[κ, κ, κ, κ, κ, κ, κ, κ, ι, ι, ι, ι, ι, ι, ι, ι, ι, ι, ι, ι, ι, ι, ι, ι, ι]) (v := Value.int .i64 tg) p76_1_7 ns76_1 hE wn_none ⟨B_gh, trivial⟩ (fun W hS => (st_load1 tA3 rfl ((blk_cell hS.1 77).trans rfl))) ?_ (fun c a w h => hQ c a _ _ w h); clear hE a; intro a hE
 refine Rv.dq (listed' := #[κ, κ, κ, κ, κ, κ, κ, κ, κ, ι, ι, ι, ι, ι, ι, ι, ι, ι, ι, ι, ι, ι, ι, ι, ι]) (v := Value.pointer (some ⟨gh, 0, none⟩)) p76_1_8 ns76_1 hE wn_none ⟨B_gh, trivial⟩ (fun W hS => (st_move rfl)) ?_ (fun c a w h => hQ c a _ _ w h); clear hE a; intro a hE
 refine Rv.dq (listed' := #[κ, κ, κ, κ, κ, κ, κ, κ, κ, κ, ι, ι, ι, ι, ι, ι, ι, ι, ι, ι, ι, ι, ι, ι, ι]) (v := Value.pointer (some ⟨gh, 0, none⟩)) p76_1_9 ns76_1 hE wn_none ⟨B_gh, trivial⟩ (fun W hS => (st_nil rfl)) ?_ (fun c a w h => hQ c a _ _ w h); clear hE a; intro a hE
 refine Rv.dq (listed' := #[κ, κ, κ, κ, κ, κ, κ, κ, κ, κ, κ, ι, ι, ι, ι, ι, ι, ι, ι, ι, ι, ι, ι, ι, ι]) (v := Value.pointer (some ⟨gh, 78, none⟩)) p76_1_10 ns76_1 hE wn_none ⟨B_gh, trivial⟩ (fun W hS => (st_fieldAddr Try.underlying96 rfl tS3 rfl rfl)) ?_ (fun c a w h => hQ c a _ _ w h); clear hE a; intro a hE
 refine Rv.dq (listed' := #[κ, κ, κ, κ, κ, κ, κ, κ, κ, κ, κ, κ, ι, ι, ι, ι, ι, ι, ι, ι, ι, ι, ι, ι, ι]) (v := Value.int .i64 came) p76_1_11 ns76_1 hE wn_none ⟨B_gh, trivial⟩ (fun W hS => (st_load1 tA3 rfl ((blk_cell hS.1 78).trans rfl))) ?_ (fun c a w h => hQ c a _ _ w h); clear hE a; intro a hE
 refine Rv.dq (listed' := #[κ, κ, κ, κ, κ, κ, κ, κ, κ, κ, κ, κ, κ, ι, ι, ι, ι, ι, ι, ι, ι, ι, ι, ι, ι]) (v := Value.pointer (some ⟨gh, 0, none⟩)) p76_1_12 ns76_1 hE wn_none ⟨B_gh, trivial⟩ (fun W hS => (st_move rfl)) ?_ (fun c a w h => hQ c a _ _ w h); clear hE a; intro a hE
 refine Rv.dq (listed' := #[κ, κ, κ, κ, κ, κ, κ, κ, κ, κ, κ, κ, κ, κ, ι, ι, ι, ι, ι, ι, ι, ι, ι, ι, ι]) (v := Value.pointer (some ⟨gh, 0, none⟩)) p76_1_13 ns76_1 hE wn_none ⟨B_gh, trivial⟩ (fun W hS => (st_nil rfl)) ?_ (fun c a w h => hQ c a _ _ w h); clear hE a; intro a hE
 refine Rv.dq (listed' := #[κ, κ, κ, κ, κ, κ, κ, κ, κ, κ, κ, κ, κ, κ, κ, ι, ι, ι, ι, ι, ι, ι, ι, ι, ι]) (v := Value.pointer (some ⟨gh, 0, none⟩)) p76_1_14 ns76_1 hE wn_none ⟨B_gh, trivial⟩ (fun W hS => (st_fieldAddr Try.underlying96 rfl tS35 rfl rfl)) ?_ (fun c a w h => hQ c a _ _ w h); clear hE a; intro a hE
 refine Rv.dq (listed' := #[κ, κ, κ, κ, κ, κ, κ, κ, κ, κ, κ, κ, κ, κ, κ, κ, ι, ι, ι, ι, ι, ι, ι, ι, ι]) (v := Value.pointer (some ⟨gh, 66, none⟩)) p76_1_15 ns76_1 hE wn_none ⟨B_gh, trivial⟩ (fun W hS => (st_fieldAddr Try.underlying35 rfl tS32 rfl rfl)) ?_ (fun c a w h => hQ c a _ _ w h); clear hE a; intro a hE
 refine Rv.dq (listed' := #[κ, κ, κ, κ, κ, κ, κ, κ, κ, κ, κ, κ, κ, κ, κ, κ, κ, ι, ι, ι, ι, ι, ι, ι, ι]) (v := Value.pointer (some ⟨gh, 66, none⟩)) p76_1_16 ns76_1 hE wn_none ⟨B_gh, trivial⟩ (fun W hS => (st_fieldAddr Try.underlying32 rfl tS4 rfl rfl)) ?_ (fun c a w h => hQ c a _ _ w h); clear hE a; intro a hE
 refine Rv.dq (listed' := #[κ, κ, κ, κ, κ, κ, κ, κ, κ, κ, κ, κ, κ, κ, κ, κ, κ, κ, ι, ι, ι, ι, ι, ι, ι]) (v := Value.bool dn) p76_1_17 ns76_1 hE wn_none ⟨B_gh, trivial⟩ (fun W hS => (st_load1 tA4 rfl ((blk_cell hS.1 66).trans rfl))) ?_ (fun c a w h => hQ c a _ _ w h); clear hE a; intro a hE
 exact dr1_0 _ a (En.sub hE ⟨rfl, rfl, rfl, rfl, rfl, rfl, rfl, rfl, rfl, rfl, rfl, rfl, rfl, rfl, rfl, rfl, rfl, rfl, rfl, rfl, trivial⟩) B_gh K_0
end Go.Proofs.Ytijfocnneccccaa.Hk2
