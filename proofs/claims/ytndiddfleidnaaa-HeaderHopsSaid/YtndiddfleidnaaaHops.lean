/- HeaderHops: the law's walk. -/
import Derived.Test.YtndiddfleidnaaaHdr
set_option maxRecDepth 100000
set_option linter.unusedVariables false
set_option linter.unusedSimpArgs false
namespace Go.Proofs.Ytndiddfleidnaaa.Hops
open Go.RowKit Go.Proofs.YtndiddfleidnaaaW.PrintWords Go.Proofs.Ytndiddfleidnaaa.Ds Go.Proofs.Ytndiddfleidnaaa.Cc Go.Proofs.Ytndiddfleidnaaa.Hd
open Go.Proofs.Ytndiddfleidnaaa.Pk (Kp fitsF spanF putF digF fits_any put_ok)
theorem reps_one {α : Type} {f : α → Value} {R : α → List Value → Prop} (hR : ∀ p c, R p c → c = [f p]) {z : List α} {cs : List Value} (h : Reps R 1 z cs) : cs = z.map f := by
  apply List.ext_getElem?
  intro i
  by_cases hi : i < z.length
  · have h2 := hR _ _ (h.2 i _ (List.getElem?_eq_getElem hi))
    have h3 := congrArg (fun l => l[0]?) h2
    simp only [Nat.mul_one, List.getElem?_take, List.getElem?_drop] at h3
    simp only [List.getElem?_map, List.getElem?_eq_getElem hi]
    simpa using h3
  · have h1 := h.1
    rw [List.getElem?_eq_none (by omega), List.getElem?_eq_none (by simp; omega)]
theorem arr16 {w : World} {z : List Int} {cs : List Value} {hs : 0 < (Kd.int .u8).sz} (h : (Kd.arr 16 (Kd.int .u8) hs).K w z cs) : cs = b16 (fun i => z.getD i 0) := by
  obtain ⟨hl, hr⟩ := h
  have e := reps_one (f := Value.int .u8) (fun p c hc => by exact hc) hr
  match z, hl with
  | [a0, a1, a2, a3, a4, a5, a6, a7, a8, a9, a10, a11, a12, a13, a14, a15], _ => rw [e]; rfl
theorem R3_0_l : List.range (regOf Try.f3 0).size = [0, 1] := by kernel_rfl
theorem R3_1_l : List.range (regOf Try.f3 1).size = [0, 1, 2, 3] := by kernel_rfl
theorem R3_2_l : List.range (regOf Try.f3 2).size = [0, 1, 2] := by kernel_rfl
theorem R3_3_l : List.range (regOf Try.f3 3).size = [0, 1] := by kernel_rfl
theorem R3_4_l : List.range (regOf Try.f3 4).size = [0] := by kernel_rfl
theorem R3_5_l : List.range (regOf Try.f3 5).size = [0] := by kernel_rfl
theorem R3_6_l : List.range (regOf Try.f3 6).size = [0, 1] := by kernel_rfl
theorem R3_8_l : List.range (regOf Try.f3 8).size = [0, 1, 2, 3, 4, 5, 6, 7] := by kernel_rfl
theorem R3_9_l : List.range (regOf Try.f3 9).size = [0, 1] := by kernel_rfl
theorem R3_10_l : List.range (regOf Try.f3 10).size = [0, 1, 2, 3, 4, 5, 6, 7, 8, 9, 10, 11, 12, 13] := by kernel_rfl
theorem R3_11_l : List.range (regOf Try.f3 11).size = [0, 1] := by kernel_rfl
theorem R3_12_l : List.range (regOf Try.f3 12).size = [0, 1, 2] := by kernel_rfl
theorem R3_7_l : List.range (regOf Try.f3 7).size = [0, 1, 2] := by kernel_rfl
theorem R3_13_l : List.range (regOf Try.f3 13).size = [0] := by kernel_rfl
theorem body3 : Try.f3.body = some (.seq (.region 0 (regOf Try.f3 0) false) (.seq (.region 1 (regOf Try.f3 1) false) (.seq (.seq (.region 2 (regOf Try.f3 2) false) (.cond (Operand.tmp 12) (.seq (.region 3 (regOf Try.f3 3) false) (.ret)) (.skip))) (.seq (.region 4 (regOf Try.f3 4) false) (.seq (.seq (.region 5 (regOf Try.f3 5) false) (.block 0 (.loop (.seq (.seq (.region 6 (regOf Try.f3 6) false) (.cond (Operand.tmp 15) (.skip) (.exit 0))) (.seq (.block 1 (.seq (.region 8 (regOf Try.f3 8) false) (.seq (.seq (.region 9 (regOf Try.f3 9) false) (.cond (Operand.tmp 24) (.seq (.region 10 (regOf Try.f3 10) false) (.ret)) (.skip))) (.seq (.region 11 (regOf Try.f3 11) false) (.region 12 (regOf Try.f3 12) false))))) (.region 7 (regOf Try.f3 7) false)))))) (.seq (.region 13 (regOf Try.f3 13) false) (.ret))))))) := by kernel_rfl
theorem p3_0_0 : pj (regOf Try.f3 0) 0 = some (some 1, Op.box 24 (Operand.tmp 0), 0, none) := by kernel_rfl
theorem p3_0_1 : pj (regOf Try.f3 0) 1 = some (some 2, Op.assign (Operand.const (Value.bool false)), 4, none) := by kernel_rfl
theorem p3_1_0 : pj (regOf Try.f3 1) 0 = some (some 8, Op.load 24 (Operand.tmp 1), 24, none) := by kernel_rfl
theorem tA24 : (Try.prog.underlying 24).map aggD = some true := by kernel_rfl
theorem tS24 : (Try.prog.info? 24).map (·.size) = some 37 := by kernel_rfl
theorem p3_1_1 : pj (regOf Try.f3 1) 1 = some (some 9, Op.call { callee := Callee.value (Operand.func 15), args := #[Operand.tmp 8], argTypes := #[24] }, 27, none) := by kernel_rfl
theorem cl15 : callable Try.f15 = true := by kernel_rfl
theorem p3_1_2 : pj (regOf Try.f3 1) 2 = some (some 3, Op.alloc 27, 0, none) := by kernel_rfl
theorem tZ27 : (Try.prog.info? 27).bind (·.zero) = some (Value.agg #[Value.int .i64 0, Value.int .i64 0, Value.int .i64 0, Value.int .i64 0, Value.int .i64 0, Value.int .u8 0, Value.int .u8 0, Value.int .u8 0, Value.int .u8 0, Value.int .u8 0, Value.int .u8 0, Value.int .u8 0, Value.int .u8 0, Value.int .u8 0, Value.int .u8 0, Value.int .u8 0, Value.int .u8 0, Value.int .u8 0, Value.int .u8 0, Value.int .u8 0, Value.int .u8 0, Value.int .u8 0, Value.int .u8 0, Value.int .u8 0, Value.int .u8 0, Value.int .u8 0, Value.int .u8 0, Value.int .u8 0, Value.int .u8 0, Value.int .u8 0, Value.int .u8 0, Value.int .u8 0, Value.int .u8 0, Value.int .u8 0, Value.int .u8 0, Value.int .u8 0, Value.int .u8 0]) := by kernel_rfl
theorem p3_1_3 : pj (regOf Try.f3 1) 3 = some (none, Op.store 27 (Operand.tmp 3) (Operand.tmp 9), 0, none) := by kernel_rfl
theorem tS27 : (Try.prog.info? 27).map (·.size) = some 37 := by kernel_rfl
theorem p3_2_0 : pj (regOf Try.f3 2) 0 = some (some 10, Op.load 27 (Operand.tmp 3), 27, none) := by kernel_rfl
theorem tA27 : (Try.prog.underlying 27).map aggD = some true := by kernel_rfl
theorem p3_2_1 : pj (regOf Try.f3 2) 1 = some (some 11, Op.call { callee := Callee.value (Operand.func 16), args := #[Operand.tmp 10], argTypes := #[27] }, 29, none) := by kernel_rfl
theorem cl16 : callable Try.f16 = true := by kernel_rfl
theorem p3_2_2 : pj (regOf Try.f3 2) 2 = some (some 12, Op.binOp BinOp.neq 29 (Operand.tmp 11) (Operand.const (Value.int IntKind.i64 0)) 29, 4, none) := by kernel_rfl
theorem p3_3_0 : pj (regOf Try.f3 3) 0 = some (some 13, Op.call { callee := Callee.value (Operand.func 17), args := #[], argTypes := #[] }, 4, none) := by kernel_rfl
theorem cl17 : callable Try.f17 = true := by kernel_rfl
theorem p3_3_1 : pj (regOf Try.f3 3) 1 = some (some 2, Op.assign (Operand.tmp 13), 4, none) := by kernel_rfl
set_option maxHeartbeats 4000000 in
theorem hops_bad (c f l x h : Int) (s d : Nat → Int) (hok : okF c f l x h = false) (w : World) : Calls Try.prog 3 #[Value.agg (([Value.int .i64 c, Value.int .i64 f, Value.int .i64 l, Value.int .i64 x, Value.int .i64 h] ++ b16 s ++ b16 d)).toArray] w fun e w' => e = .returned (.bool true) ∧ Kp w w' (fun _ => False) := by
  have K_0 := Kp.refl w (fun _ => False)
  refine enter (args := [Value.agg (([Value.int .i64 c, Value.int .i64 f, Value.int .i64 l, Value.int .i64 x, Value.int .i64 h] ++ b16 s ++ b16 d)).toArray]) (n := 41) Try.func3 body3 rfl rfl rfl ?_
  intro a hE
  refine c_reg R3_0_l ?_
  refine p_cons (s_box p3_0_0 hE wn_none rfl rfl ?_)
  clear hE a; intro g1 w2 z3 B_g1 hk a hE
  replace B_g1 : w2.heap[g1]? = some (.cells (([Value.int .i64 c, Value.int .i64 f, Value.int .i64 l, Value.int .i64 x, Value.int .i64 h] ++ b16 s ++ b16 d)).toArray 24 (0, 0)) := B_g1
  have z_0_g1 := Nat.le_trans K_0.kept.1 z3
  replace K_0 := K_0.then_ hk (fun _ h => h.elim)
  clear hk
  refine p_cons (s_still p3_0_1 hE wn_none rfl (st_assign rfl) ?_)
  clear hE a; intro a hE
  refine p_nil ?_
  refine x_norm ?_
  refine c_reg R3_1_l ?_
  refine p_cons (s_still p3_1_0 hE wn_none rfl (st_loadN (off := 0) (k := 37) (vs := ([Value.int .i64 c, Value.int .i64 f, Value.int .i64 l, Value.int .i64 x, Value.int .i64 h] ++ b16 s ++ b16 d)) tA24 tS24 rfl B_g1 rfl rfl) ?_)
  clear hE a; intro a hE
  refine p_cons (s_call (xs := [Operand.tmp 8]) (args := [Value.agg (([Value.int .i64 c, Value.int .i64 f, Value.int .i64 l, Value.int .i64 x, Value.int .i64 h] ++ b16 s ++ b16 d)).toArray]) p3_1_1 hE wn_none rfl rfl Try.func15 cl15 (to_any c f l x h s d _) ?_)
  rintro e w4 ⟨rfl, hk⟩
  replace B_g1 := kp_blk B_g1 hk (fun h => h)
  replace K_0 := K_0.then_ hk (fun _ h => h.elim)
  refine ⟨_, rfl, ?_⟩
  clear hE a; intro a hE
  refine p_cons (s_alloc p3_1_2 hE wn_none rfl tZ27 ?_)
  clear hE a; intro g5 w6 z7 B_g5 hk a hE
  replace B_g5 : w6.heap[g5]? = some (.cells #[Value.int .i64 0, Value.int .i64 0, Value.int .i64 0, Value.int .i64 0, Value.int .i64 0, Value.int .u8 0, Value.int .u8 0, Value.int .u8 0, Value.int .u8 0, Value.int .u8 0, Value.int .u8 0, Value.int .u8 0, Value.int .u8 0, Value.int .u8 0, Value.int .u8 0, Value.int .u8 0, Value.int .u8 0, Value.int .u8 0, Value.int .u8 0, Value.int .u8 0, Value.int .u8 0, Value.int .u8 0, Value.int .u8 0, Value.int .u8 0, Value.int .u8 0, Value.int .u8 0, Value.int .u8 0, Value.int .u8 0, Value.int .u8 0, Value.int .u8 0, Value.int .u8 0, Value.int .u8 0, Value.int .u8 0, Value.int .u8 0, Value.int .u8 0, Value.int .u8 0, Value.int .u8 0] 27 (0, 0)) := B_g5
  have n_g1_g5 : g1 ≠ g5 := ne_new B_g1 z7
  have z_0_g5 := Nat.le_trans K_0.kept.1 z7
  replace B_g1 := kp_blk B_g1 hk (fun h => h)
  replace K_0 := K_0.then_ hk (fun _ h => h.elim)
  clear hk
  refine p_cons (s_store (off := 0) (k := 37) (cs' := (([Value.int .i64 c, Value.int .i64 f, Value.int .i64 l, Value.int .i64 x, Value.int .i64 h] ++ b16 s ++ b16 d)).toArray) p3_1_3 hE wn_none tS27 rfl rfl rfl rfl B_g5 (Nat.le_of_ble_eq_true rfl) rfl ?_)
  intro w8 B_g5' hk
  replace B_g1 := kp_blk B_g1 hk n_g1_g5
  replace K_0 := K_0.then_ hk (fun k h => by rw [show k = g5 from h]; exact Or.inr z_0_g5)
  replace B_g5 := B_g5'
  clear hk
  refine p_nil ?_
  refine x_norm ?_
  refine wp_seq ?_
  refine c_reg R3_2_l ?_
  refine p_cons (s_still p3_2_0 hE wn_none rfl (st_loadN (off := 0) (k := 37) (vs := ([Value.int .i64 c, Value.int .i64 f, Value.int .i64 l, Value.int .i64 x, Value.int .i64 h] ++ b16 s ++ b16 d)) tA27 tS27 rfl B_g5 rfl rfl) ?_)
  clear hE a; intro a hE
  refine p_cons (s_call (xs := [Operand.tmp 10]) (args := [Value.agg (([Value.int .i64 c, Value.int .i64 f, Value.int .i64 l, Value.int .i64 x, Value.int .i64 h] ++ b16 s ++ b16 d)).toArray]) p3_2_1 hE wn_none rfl rfl Try.func16 cl16 (check_any c f l x h s d 1 (by rw [hok]; rfl) _) ?_)
  rintro e w9 ⟨rfl, hk⟩
  replace B_g1 := kp_blk B_g1 hk (fun h => h)
  replace B_g5 := kp_blk B_g5 hk (fun h => h)
  replace K_0 := K_0.then_ hk (fun _ h => h.elim)
  refine ⟨_, rfl, ?_⟩
  clear hE a; intro a hE
  refine p_cons (s_still p3_2_2 hE wn_none rfl (st_neq (b := true) rfl rfl (by decide)) ?_)
  clear hE a; intro a hE
  refine p_nil ?_
  refine x_norm ?_
  refine c_cond (t := true) hE rfl ?_
  refine c_reg R3_3_l ?_
  refine p_cons (s_call (xs := []) (args := []) p3_3_0 hE wn_none rfl rfl Try.func17 cl17 (known_any _) ?_)
  rintro e w10 ⟨rfl, hk⟩
  replace B_g1 := kp_blk B_g1 hk (fun h => h)
  replace B_g5 := kp_blk B_g5 hk (fun h => h)
  replace K_0 := K_0.then_ hk (fun _ h => h.elim)
  refine ⟨_, rfl, ?_⟩
  clear hE a; intro a hE
  refine p_cons (s_still p3_3_1 hE wn_none rfl (st_assign rfl) ?_)
  clear hE a; intro a hE
  refine p_nil ?_
  refine x_norm ?_
  refine wp_ret ?_
  refine x_ret ?_
  refine ret_one (v := Value.bool true) rfl hE (.tmp rfl .nil) ?_
  exact ⟨rfl, K_0⟩
theorem p3_4_0 : pj (regOf Try.f3 4) 0 = some (some 4, Op.assign (Operand.const (Value.int IntKind.i64 0)), 3, none) := by kernel_rfl
theorem p3_5_0 : pj (regOf Try.f3 5) 0 = some (some 5, Op.assign (Operand.const (Value.int IntKind.i64 0)), 3, none) := by kernel_rfl
theorem p3_6_0 : pj (regOf Try.f3 6) 0 = some (some 14, Op.move (Operand.tmp 5), 3, none) := by kernel_rfl
theorem p3_6_1 : pj (regOf Try.f3 6) 1 = some (some 15, Op.binOp BinOp.lss 3 (Operand.tmp 14) (Operand.const (Value.int IntKind.i64 300)) 3, 4, none) := by kernel_rfl
theorem p3_8_0 : pj (regOf Try.f3 8) 0 = some (some 19, Op.load 27 (Operand.tmp 3), 27, none) := by kernel_rfl
theorem p3_8_1 : pj (regOf Try.f3 8) 1 = some (some 20, Op.call { callee := Callee.value (Operand.func 18), args := #[Operand.tmp 19], argTypes := #[27] }, 32, none) := by kernel_rfl
theorem cl18 : callable Try.f18 = true := by kernel_rfl
theorem p3_8_2 : pj (regOf Try.f3 8) 2 = some (some 18, Op.move (Operand.tmp 20), 32, none) := by kernel_rfl
theorem p3_8_3 : pj (regOf Try.f3 8) 3 = some (some 21, Op.extract (Operand.tmp 18) 0, 27, none) := by kernel_rfl
theorem p3_8_4 : pj (regOf Try.f3 8) 4 = some (some 22, Op.extract (Operand.tmp 18) 1, 29, none) := by kernel_rfl
theorem p3_8_5 : pj (regOf Try.f3 8) 5 = some (some 6, Op.alloc 27, 0, none) := by kernel_rfl
theorem p3_8_6 : pj (regOf Try.f3 8) 6 = some (none, Op.store 27 (Operand.tmp 6) (Operand.tmp 21), 0, none) := by kernel_rfl
theorem p3_8_7 : pj (regOf Try.f3 8) 7 = some (some 7, Op.assign (Operand.tmp 22), 29, none) := by kernel_rfl
theorem p3_9_0 : pj (regOf Try.f3 9) 0 = some (some 23, Op.move (Operand.tmp 7), 29, none) := by kernel_rfl
theorem p3_9_1 : pj (regOf Try.f3 9) 1 = some (some 24, Op.binOp BinOp.neq 29 (Operand.tmp 23) (Operand.const (Value.int IntKind.i64 0)) 29, 4, none) := by kernel_rfl
theorem p3_10_0 : pj (regOf Try.f3 10) 0 = some (some 25, Op.call { callee := Callee.value (Operand.func 17), args := #[], argTypes := #[] }, 4, none) := by kernel_rfl
theorem p3_10_1 : pj (regOf Try.f3 10) 1 = some (some 26, Op.move (Operand.tmp 25), 4, none) := by kernel_rfl
theorem p3_10_2 : pj (regOf Try.f3 10) 2 = some (some 27, Op.move (Operand.tmp 7), 29, some (1, true)) := by kernel_rfl
theorem g3_10_1 : dstOf (regOf Try.f3 10) 1 = some 26 := by kernel_rfl
theorem p3_10_3 : pj (regOf Try.f3 10) 3 = some (some 28, Op.binOp BinOp.eql 29 (Operand.tmp 27) (Operand.const (Value.int IntKind.i64 12)) 29, 4, some (1, true)) := by kernel_rfl
theorem p3_10_4 : pj (regOf Try.f3 10) 4 = some (some 29, Op.pick (Operand.tmp 26) (Operand.tmp 28) (Operand.const (Value.bool false)), 4, none) := by kernel_rfl
theorem p3_10_5 : pj (regOf Try.f3 10) 5 = some (some 30, Op.move (Operand.tmp 29), 4, none) := by kernel_rfl
theorem p3_10_6 : pj (regOf Try.f3 10) 6 = some (some 31, Op.move (Operand.tmp 4), 3, some (5, true)) := by kernel_rfl
theorem g3_10_5 : dstOf (regOf Try.f3 10) 5 = some 30 := by kernel_rfl
theorem p3_10_7 : pj (regOf Try.f3 10) 7 = some (some 32, Op.fieldAddr 24 (Operand.tmp 1) 4, 0, some (5, true)) := by kernel_rfl
theorem tS3 : (Try.prog.info? 3).map (·.size) = some 1 := by kernel_rfl
theorem p3_10_8 : pj (regOf Try.f3 10) 8 = some (some 33, Op.load 3 (Operand.tmp 32), 3, some (5, true)) := by kernel_rfl
theorem tA3 : (Try.prog.underlying 3).map aggD = some false := by kernel_rfl
theorem p3_10_9 : pj (regOf Try.f3 10) 9 = some (some 34, Op.binOp BinOp.sub 3 (Operand.tmp 33) (Operand.const (Value.int IntKind.i64 1)) 3, 3, some (5, true)) := by kernel_rfl
theorem p3_10_10 : pj (regOf Try.f3 10) 10 = some (some 35, Op.call { callee := Callee.builtin Builtin.max, args := #[Operand.tmp 34, Operand.const (Value.int IntKind.i64 0)], argTypes := #[3, 3] }, 3, some (5, true)) := by kernel_rfl
theorem p3_10_11 : pj (regOf Try.f3 10) 11 = some (some 36, Op.binOp BinOp.eql 3 (Operand.tmp 31) (Operand.tmp 35) 3, 4, some (5, true)) := by kernel_rfl
theorem p3_10_12 : pj (regOf Try.f3 10) 12 = some (some 37, Op.pick (Operand.tmp 30) (Operand.tmp 36) (Operand.const (Value.bool false)), 4, none) := by kernel_rfl
theorem p3_10_13 : pj (regOf Try.f3 10) 13 = some (some 2, Op.assign (Operand.tmp 37), 4, none) := by kernel_rfl
theorem p3_11_0 : pj (regOf Try.f3 11) 0 = some (some 38, Op.load 27 (Operand.tmp 6), 27, none) := by kernel_rfl
theorem p3_11_1 : pj (regOf Try.f3 11) 1 = some (none, Op.store 27 (Operand.tmp 3) (Operand.tmp 38), 0, none) := by kernel_rfl
theorem p3_12_0 : pj (regOf Try.f3 12) 0 = some (some 39, Op.move (Operand.tmp 4), 3, none) := by kernel_rfl
theorem p3_12_1 : pj (regOf Try.f3 12) 1 = some (some 40, Op.binOp BinOp.add 3 (Operand.tmp 39) (Operand.const (Value.int IntKind.i64 1)) 3, 3, none) := by kernel_rfl
theorem p3_12_2 : pj (regOf Try.f3 12) 2 = some (some 4, Op.assign (Operand.tmp 40), 3, none) := by kernel_rfl
theorem p3_7_0 : pj (regOf Try.f3 7) 0 = some (some 16, Op.move (Operand.tmp 5), 3, none) := by kernel_rfl
theorem p3_7_1 : pj (regOf Try.f3 7) 1 = some (some 17, Op.binOp BinOp.add 3 (Operand.tmp 16) (Operand.const (Value.int IntKind.i64 1)) 3, 3, none) := by kernel_rfl
theorem p3_7_2 : pj (regOf Try.f3 7) 2 = some (some 5, Op.assign (Operand.tmp 17), 3, none) := by kernel_rfl
set_option maxHeartbeats 4000000 in
theorem hops_ok (c f l x h : Int) (s d : Nat → Int) (hok : okF c f l x h = true) (w : World) : Calls Try.prog 3 #[Value.agg (([Value.int .i64 c, Value.int .i64 f, Value.int .i64 l, Value.int .i64 x, Value.int .i64 h] ++ b16 s ++ b16 d)).toArray] w fun e w' => e = .returned (.bool true) ∧ Kp w w' (fun _ => False) := by
  have K_0 := Kp.refl w (fun _ => False)
  obtain ⟨hc, hf, hl, hx, hh⟩ := okF_of hok
  refine enter (args := [Value.agg (([Value.int .i64 c, Value.int .i64 f, Value.int .i64 l, Value.int .i64 x, Value.int .i64 h] ++ b16 s ++ b16 d)).toArray]) (n := 41) Try.func3 body3 rfl rfl rfl ?_
  intro a hE
  refine c_reg R3_0_l ?_
  refine p_cons (s_box p3_0_0 hE wn_none rfl rfl ?_)
  clear hE a; intro g1 w2 z3 B_g1 hk a hE
  replace B_g1 : w2.heap[g1]? = some (.cells (([Value.int .i64 c, Value.int .i64 f, Value.int .i64 l, Value.int .i64 x, Value.int .i64 h] ++ b16 s ++ b16 d)).toArray 24 (0, 0)) := B_g1
  have z_0_g1 := Nat.le_trans K_0.kept.1 z3
  replace K_0 := K_0.then_ hk (fun _ h => h.elim)
  clear hk
  refine p_cons (s_still p3_0_1 hE wn_none rfl (st_assign rfl) ?_)
  clear hE a; intro a hE
  refine p_nil ?_
  refine x_norm ?_
  refine c_reg R3_1_l ?_
  refine p_cons (s_still p3_1_0 hE wn_none rfl (st_loadN (off := 0) (k := 37) (vs := ([Value.int .i64 c, Value.int .i64 f, Value.int .i64 l, Value.int .i64 x, Value.int .i64 h] ++ b16 s ++ b16 d)) tA24 tS24 rfl B_g1 rfl rfl) ?_)
  clear hE a; intro a hE
  refine p_cons (s_call (xs := [Operand.tmp 8]) (args := [Value.agg (([Value.int .i64 c, Value.int .i64 f, Value.int .i64 l, Value.int .i64 x, Value.int .i64 h] ++ b16 s ++ b16 d)).toArray]) p3_1_1 hE wn_none rfl rfl Try.func15 cl15 (to_any c f l x h s d _) ?_)
  rintro e w4 ⟨rfl, hk⟩
  replace B_g1 := kp_blk B_g1 hk (fun h => h)
  replace K_0 := K_0.then_ hk (fun _ h => h.elim)
  refine ⟨_, rfl, ?_⟩
  clear hE a; intro a hE
  refine p_cons (s_alloc p3_1_2 hE wn_none rfl tZ27 ?_)
  clear hE a; intro g5 w6 z7 B_g5 hk a hE
  replace B_g5 : w6.heap[g5]? = some (.cells #[Value.int .i64 0, Value.int .i64 0, Value.int .i64 0, Value.int .i64 0, Value.int .i64 0, Value.int .u8 0, Value.int .u8 0, Value.int .u8 0, Value.int .u8 0, Value.int .u8 0, Value.int .u8 0, Value.int .u8 0, Value.int .u8 0, Value.int .u8 0, Value.int .u8 0, Value.int .u8 0, Value.int .u8 0, Value.int .u8 0, Value.int .u8 0, Value.int .u8 0, Value.int .u8 0, Value.int .u8 0, Value.int .u8 0, Value.int .u8 0, Value.int .u8 0, Value.int .u8 0, Value.int .u8 0, Value.int .u8 0, Value.int .u8 0, Value.int .u8 0, Value.int .u8 0, Value.int .u8 0, Value.int .u8 0, Value.int .u8 0, Value.int .u8 0, Value.int .u8 0, Value.int .u8 0] 27 (0, 0)) := B_g5
  have n_g1_g5 : g1 ≠ g5 := ne_new B_g1 z7
  have z_0_g5 := Nat.le_trans K_0.kept.1 z7
  replace B_g1 := kp_blk B_g1 hk (fun h => h)
  replace K_0 := K_0.then_ hk (fun _ h => h.elim)
  clear hk
  refine p_cons (s_store (off := 0) (k := 37) (cs' := (([Value.int .i64 c, Value.int .i64 f, Value.int .i64 l, Value.int .i64 x, Value.int .i64 h] ++ b16 s ++ b16 d)).toArray) p3_1_3 hE wn_none tS27 rfl rfl rfl rfl B_g5 (Nat.le_of_ble_eq_true rfl) rfl ?_)
  intro w8 B_g5' hk
  replace B_g1 := kp_blk B_g1 hk n_g1_g5
  replace K_0 := K_0.then_ hk (fun k h => by rw [show k = g5 from h]; exact Or.inr z_0_g5)
  replace B_g5 := B_g5'
  clear hk
  refine p_nil ?_
  refine x_norm ?_
  refine wp_seq ?_
  refine c_reg R3_2_l ?_
  refine p_cons (s_still p3_2_0 hE wn_none rfl (st_loadN (off := 0) (k := 37) (vs := ([Value.int .i64 c, Value.int .i64 f, Value.int .i64 l, Value.int .i64 x, Value.int .i64 h] ++ b16 s ++ b16 d)) tA27 tS27 rfl B_g5 rfl rfl) ?_)
  clear hE a; intro a hE
  refine p_cons (s_call (xs := [Operand.tmp 10]) (args := [Value.agg (([Value.int .i64 c, Value.int .i64 f, Value.int .i64 l, Value.int .i64 x, Value.int .i64 h] ++ b16 s ++ b16 d)).toArray]) p3_2_1 hE wn_none rfl rfl Try.func16 cl16 (check_any c f l x h s d 0 (by rw [hok]; rfl) _) ?_)
  rintro e w9 ⟨rfl, hk⟩
  replace B_g1 := kp_blk B_g1 hk (fun h => h)
  replace B_g5 := kp_blk B_g5 hk (fun h => h)
  replace K_0 := K_0.then_ hk (fun _ h => h.elim)
  refine ⟨_, rfl, ?_⟩
  clear hE a; intro a hE
  refine p_cons (s_still p3_2_2 hE wn_none rfl (st_neq (b := false) rfl rfl (by decide)) ?_)
  clear hE a; intro a hE
  refine p_nil ?_
  refine x_norm ?_
  refine c_cond (t := false) hE rfl ?_
  refine wp_skip ?_
  refine x_norm ?_
  refine c_reg R3_4_l ?_
  refine p_cons (s_still p3_4_0 hE wn_none rfl (st_assign rfl) ?_)
  clear hE a; intro a hE
  refine p_nil ?_
  refine x_norm ?_
  refine wp_seq ?_
  refine c_reg R3_5_l ?_
  refine p_cons (s_still p3_5_0 hE wn_none rfl (st_assign rfl) ?_)
  clear hE a; intro a hE
  refine p_nil ?_
  refine x_norm ?_
  refine wp_block ?_
  have e0 : h = h - ((0 : Nat) : Int) := by simp
  rw [e0] at B_g5
  refine c_loop (α := Nat) (fun k a W => En 41 a [(0, Value.agg (([Value.int .i64 c, Value.int .i64 f, Value.int .i64 l, Value.int .i64 x, Value.int .i64 h] ++ b16 s ++ b16 d)).toArray), (1, Value.pointer (some ⟨g1, 0, none⟩)), (3, Value.pointer (some ⟨g5, 0, none⟩)), (12, Value.bool false), (4, Value.int .i64 (k : Int)), (5, Value.int .i64 (k : Int))] ∧ (k = 0 ∨ (k : Int) + 1 ≤ h) ∧ W.heap[g1]? = some (.cells (([Value.int .i64 c, Value.int .i64 f, Value.int .i64 l, Value.int .i64 x, Value.int .i64 h] ++ b16 s ++ b16 d)).toArray 24 (0, 0)) ∧ W.heap[g5]? = some (.cells (([Value.int .i64 c, Value.int .i64 f, Value.int .i64 l, Value.int .i64 x, Value.int .i64 (h - (k : Int))] ++ b16 s ++ b16 d)).toArray 27 (0, 0)) ∧ Kp w W (fun _ => False)) (fun k => 300 - k) (0) ?_ ?_
  ·
    exact ⟨En.sub hE ⟨rfl, rfl, rfl, rfl, rfl, rfl, trivial⟩, Or.inl rfl, B_g1, B_g5, K_0⟩
  ·
    clear hE a
    rintro k a w10 ⟨hE, hk9, B_g1, B_g5, K_0⟩
    refine wp_seq ?_
    refine c_reg R3_6_l ?_
    refine p_cons (s_still p3_6_0 hE wn_none rfl (st_move rfl) ?_)
    clear hE a; intro a hE
    refine p_cons (s_still p3_6_1 hE wn_none rfl (st_lss (b := true) rfl rfl (decide_eq_true (by omega))) ?_)
    clear hE a; intro a hE
    refine p_nil ?_
    refine x_norm ?_
    refine c_cond (t := true) hE rfl ?_
    refine wp_skip ?_
    refine x_norm ?_
    refine wp_seq ?_
    refine wp_block ?_
    rcases Decidable.em (h - (k : Int) < 2) with hp | hp
    ·
      refine c_reg R3_8_l ?_
      refine p_cons (s_still p3_8_0 hE wn_none rfl (st_loadN (off := 0) (k := 37) (vs := ([Value.int .i64 c, Value.int .i64 f, Value.int .i64 l, Value.int .i64 x, Value.int .i64 (h - (k : Int))] ++ b16 s ++ b16 d)) tA27 tS27 rfl B_g5 rfl rfl) ?_)
      clear hE a; intro a hE
      refine p_cons (s_call (xs := [Operand.tmp 19]) (args := [Value.agg (([Value.int .i64 c, Value.int .i64 f, Value.int .i64 l, Value.int .i64 x, Value.int .i64 (h - (k : Int))] ++ b16 s ++ b16 d)).toArray]) p3_8_1 hE wn_none rfl rfl Try.func18 cl18 (passed_low c f l x (h - (k : Int)) s d (okF_mk hc hf hl hx (by omega)) hp _) ?_)
      rintro e w11 ⟨rfl, hk⟩
      replace B_g1 := kp_blk B_g1 hk (fun h => h)
      replace B_g5 := kp_blk B_g5 hk (fun h => h)
      replace K_0 := K_0.then_ hk (fun _ h => h.elim)
      refine ⟨_, rfl, ?_⟩
      clear hE a; intro a hE
      refine p_cons (s_still p3_8_2 hE wn_none rfl (st_move rfl) ?_)
      clear hE a; intro a hE
      refine p_cons (s_still p3_8_3 hE wn_none rfl (st_extract rfl rfl) ?_)
      clear hE a; intro a hE
      refine p_cons (s_still p3_8_4 hE wn_none rfl (st_extract rfl rfl) ?_)
      clear hE a; intro a hE
      refine p_cons (s_alloc p3_8_5 hE wn_none rfl tZ27 ?_)
      clear hE a; intro g12 w13 z14 B_g12 hk a hE
      replace B_g12 : w13.heap[g12]? = some (.cells #[Value.int .i64 0, Value.int .i64 0, Value.int .i64 0, Value.int .i64 0, Value.int .i64 0, Value.int .u8 0, Value.int .u8 0, Value.int .u8 0, Value.int .u8 0, Value.int .u8 0, Value.int .u8 0, Value.int .u8 0, Value.int .u8 0, Value.int .u8 0, Value.int .u8 0, Value.int .u8 0, Value.int .u8 0, Value.int .u8 0, Value.int .u8 0, Value.int .u8 0, Value.int .u8 0, Value.int .u8 0, Value.int .u8 0, Value.int .u8 0, Value.int .u8 0, Value.int .u8 0, Value.int .u8 0, Value.int .u8 0, Value.int .u8 0, Value.int .u8 0, Value.int .u8 0, Value.int .u8 0, Value.int .u8 0, Value.int .u8 0, Value.int .u8 0, Value.int .u8 0, Value.int .u8 0] 27 (0, 0)) := B_g12
      have n_g1_g12 : g1 ≠ g12 := ne_new B_g1 z14
      have n_g5_g12 : g5 ≠ g12 := ne_new B_g5 z14
      have z_0_g12 := Nat.le_trans K_0.kept.1 z14
      replace B_g1 := kp_blk B_g1 hk (fun h => h)
      replace B_g5 := kp_blk B_g5 hk (fun h => h)
      replace K_0 := K_0.then_ hk (fun _ h => h.elim)
      clear hk
      refine p_cons (s_store (off := 0) (k := 37) (cs' := #[Value.int .i64 0, Value.int .i64 0, Value.int .i64 0, Value.int .i64 0, Value.int .i64 0, Value.int .u8 0, Value.int .u8 0, Value.int .u8 0, Value.int .u8 0, Value.int .u8 0, Value.int .u8 0, Value.int .u8 0, Value.int .u8 0, Value.int .u8 0, Value.int .u8 0, Value.int .u8 0, Value.int .u8 0, Value.int .u8 0, Value.int .u8 0, Value.int .u8 0, Value.int .u8 0, Value.int .u8 0, Value.int .u8 0, Value.int .u8 0, Value.int .u8 0, Value.int .u8 0, Value.int .u8 0, Value.int .u8 0, Value.int .u8 0, Value.int .u8 0, Value.int .u8 0, Value.int .u8 0, Value.int .u8 0, Value.int .u8 0, Value.int .u8 0, Value.int .u8 0, Value.int .u8 0]) p3_8_6 hE wn_none tS27 rfl rfl rfl rfl B_g12 (Nat.le_of_ble_eq_true rfl) rfl ?_)
      intro w15 B_g12' hk
      replace B_g1 := kp_blk B_g1 hk n_g1_g12
      replace B_g5 := kp_blk B_g5 hk n_g5_g12
      replace K_0 := K_0.then_ hk (fun k h => by rw [show k = g12 from h]; exact Or.inr z_0_g12)
      replace B_g12 := B_g12'
      clear hk
      refine p_cons (s_still p3_8_7 hE wn_none rfl (st_assign rfl) ?_)
      clear hE a; intro a hE
      refine p_nil ?_
      refine x_norm ?_
      refine wp_seq ?_
      refine c_reg R3_9_l ?_
      refine p_cons (s_still p3_9_0 hE wn_none rfl (st_move rfl) ?_)
      clear hE a; intro a hE
      refine p_cons (s_still p3_9_1 hE wn_none rfl (st_neq (b := true) rfl rfl (by decide)) ?_)
      clear hE a; intro a hE
      refine p_nil ?_
      refine x_norm ?_
      refine c_cond (t := true) hE rfl ?_
      refine c_reg R3_10_l ?_
      refine p_cons (s_call (xs := []) (args := []) p3_10_0 hE wn_none rfl rfl Try.func17 cl17 (known_any _) ?_)
      rintro e w16 ⟨rfl, hk⟩
      replace B_g1 := kp_blk B_g1 hk (fun h => h)
      replace B_g5 := kp_blk B_g5 hk (fun h => h)
      replace B_g12 := kp_blk B_g12 hk (fun h => h)
      replace K_0 := K_0.then_ hk (fun _ h => h.elim)
      refine ⟨_, rfl, ?_⟩
      clear hE a; intro a hE
      refine p_cons (s_still p3_10_1 hE wn_none rfl (st_move rfl) ?_)
      clear hE a; intro a hE
      refine p_cons (s_still p3_10_2 hE (wn_some g3_10_1 rfl rfl) rfl (st_move rfl) ?_)
      clear hE a; intro a hE
      refine p_cons (s_still p3_10_3 hE (wn_some g3_10_1 rfl rfl) rfl (st_eql (b := true) rfl rfl (by decide)) ?_)
      clear hE a; intro a hE
      refine p_cons (s_still p3_10_4 hE wn_none rfl (st_pick rfl rfl) ?_)
      clear hE a; intro a hE
      refine p_cons (s_still p3_10_5 hE wn_none rfl (st_move rfl) ?_)
      clear hE a; intro a hE
      refine p_cons (s_still p3_10_6 hE (wn_some g3_10_5 rfl rfl) rfl (st_move rfl) ?_)
      clear hE a; intro a hE
      refine p_cons (s_still p3_10_7 hE (wn_some g3_10_5 rfl rfl) rfl (st_fieldAddr Try.underlying24 rfl tS3 rfl rfl) ?_)
      clear hE a; intro a hE
      refine p_cons (s_still p3_10_8 hE (wn_some g3_10_5 rfl rfl) rfl (st_load1 tA3 rfl ((blk_cell B_g1 4).trans rfl)) ?_)
      clear hE a; intro a hE
      refine p_cons (s_still p3_10_9 hE (wn_some g3_10_5 rfl rfl) rfl (st_sub (z := h - 1) rfl rfl (wr_i64 _ (by omega) (by omega))) ?_)
      clear hE a; intro a hE
      refine p_cons (s_still p3_10_10 hE (wn_some g3_10_5 rfl rfl) rfl (st_max (z := (k : Int)) rfl rfl (by omega)) ?_)
      clear hE a; intro a hE
      refine p_cons (s_still p3_10_11 hE (wn_some g3_10_5 rfl rfl) rfl (st_eql (b := true) rfl rfl (by simp)) ?_)
      clear hE a; intro a hE
      refine p_cons (s_still p3_10_12 hE wn_none rfl (st_pick rfl rfl) ?_)
      clear hE a; intro a hE
      refine p_cons (s_still p3_10_13 hE wn_none rfl (st_assign rfl) ?_)
      clear hE a; intro a hE
      refine p_nil ?_
      refine x_norm ?_
      refine wp_ret ?_
      refine x_ret ?_
      refine x_retB ?_
      refine x_ret ?_
      refine x_ret ?_
      refine x_retB ?_
      refine x_ret ?_
      refine ret_one (v := Value.bool true) rfl hE (.tmp rfl .nil) ?_
      exact ⟨rfl, K_0⟩
    ·
      refine c_reg R3_8_l ?_
      refine p_cons (s_still p3_8_0 hE wn_none rfl (st_loadN (off := 0) (k := 37) (vs := ([Value.int .i64 c, Value.int .i64 f, Value.int .i64 l, Value.int .i64 x, Value.int .i64 (h - (k : Int))] ++ b16 s ++ b16 d)) tA27 tS27 rfl B_g5 rfl rfl) ?_)
      clear hE a; intro a hE
      refine p_cons (s_call (xs := [Operand.tmp 19]) (args := [Value.agg (([Value.int .i64 c, Value.int .i64 f, Value.int .i64 l, Value.int .i64 x, Value.int .i64 (h - (k : Int))] ++ b16 s ++ b16 d)).toArray]) p3_8_1 hE wn_none rfl rfl Try.func18 cl18 (passed_ok c f l x (h - (k : Int)) s d (okF_mk hc hf hl hx (by omega)) hp _) ?_)
      rintro e w17 ⟨rfl, hk⟩
      replace B_g1 := kp_blk B_g1 hk (fun h => h)
      replace B_g5 := kp_blk B_g5 hk (fun h => h)
      replace K_0 := K_0.then_ hk (fun _ h => h.elim)
      refine ⟨_, rfl, ?_⟩
      clear hE a; intro a hE
      refine p_cons (s_still p3_8_2 hE wn_none rfl (st_move rfl) ?_)
      clear hE a; intro a hE
      refine p_cons (s_still p3_8_3 hE wn_none rfl (st_extract rfl rfl) ?_)
      clear hE a; intro a hE
      refine p_cons (s_still p3_8_4 hE wn_none rfl (st_extract rfl rfl) ?_)
      clear hE a; intro a hE
      refine p_cons (s_alloc p3_8_5 hE wn_none rfl tZ27 ?_)
      clear hE a; intro g18 w19 z20 B_g18 hk a hE
      replace B_g18 : w19.heap[g18]? = some (.cells #[Value.int .i64 0, Value.int .i64 0, Value.int .i64 0, Value.int .i64 0, Value.int .i64 0, Value.int .u8 0, Value.int .u8 0, Value.int .u8 0, Value.int .u8 0, Value.int .u8 0, Value.int .u8 0, Value.int .u8 0, Value.int .u8 0, Value.int .u8 0, Value.int .u8 0, Value.int .u8 0, Value.int .u8 0, Value.int .u8 0, Value.int .u8 0, Value.int .u8 0, Value.int .u8 0, Value.int .u8 0, Value.int .u8 0, Value.int .u8 0, Value.int .u8 0, Value.int .u8 0, Value.int .u8 0, Value.int .u8 0, Value.int .u8 0, Value.int .u8 0, Value.int .u8 0, Value.int .u8 0, Value.int .u8 0, Value.int .u8 0, Value.int .u8 0, Value.int .u8 0, Value.int .u8 0] 27 (0, 0)) := B_g18
      have n_g1_g18 : g1 ≠ g18 := ne_new B_g1 z20
      have n_g5_g18 : g5 ≠ g18 := ne_new B_g5 z20
      have z_0_g18 := Nat.le_trans K_0.kept.1 z20
      replace B_g1 := kp_blk B_g1 hk (fun h => h)
      replace B_g5 := kp_blk B_g5 hk (fun h => h)
      replace K_0 := K_0.then_ hk (fun _ h => h.elim)
      clear hk
      refine p_cons (s_store (off := 0) (k := 37) (cs' := (([Value.int .i64 c, Value.int .i64 f, Value.int .i64 l, Value.int .i64 x, Value.int .i64 ((h - (k : Int)) - 1)] ++ b16 s ++ b16 d)).toArray) p3_8_6 hE wn_none tS27 rfl rfl rfl rfl B_g18 (Nat.le_of_ble_eq_true rfl) rfl ?_)
      intro w21 B_g18' hk
      replace B_g1 := kp_blk B_g1 hk n_g1_g18
      replace B_g5 := kp_blk B_g5 hk n_g5_g18
      replace K_0 := K_0.then_ hk (fun k h => by rw [show k = g18 from h]; exact Or.inr z_0_g18)
      replace B_g18 := B_g18'
      clear hk
      refine p_cons (s_still p3_8_7 hE wn_none rfl (st_assign rfl) ?_)
      clear hE a; intro a hE
      refine p_nil ?_
      refine x_norm ?_
      refine wp_seq ?_
      refine c_reg R3_9_l ?_
      refine p_cons (s_still p3_9_0 hE wn_none rfl (st_move rfl) ?_)
      clear hE a; intro a hE
      refine p_cons (s_still p3_9_1 hE wn_none rfl (st_neq (b := false) rfl rfl (by decide)) ?_)
      clear hE a; intro a hE
      refine p_nil ?_
      refine x_norm ?_
      refine c_cond (t := false) hE rfl ?_
      refine wp_skip ?_
      refine x_norm ?_
      refine c_reg R3_11_l ?_
      refine p_cons (s_still p3_11_0 hE wn_none rfl (st_loadN (off := 0) (k := 37) (vs := ([Value.int .i64 c, Value.int .i64 f, Value.int .i64 l, Value.int .i64 x, Value.int .i64 ((h - (k : Int)) - 1)] ++ b16 s ++ b16 d)) tA27 tS27 rfl B_g18 rfl rfl) ?_)
      clear hE a; intro a hE
      refine p_cons (s_store (off := 0) (k := 37) (cs' := (([Value.int .i64 c, Value.int .i64 f, Value.int .i64 l, Value.int .i64 x, Value.int .i64 ((h - (k : Int)) - 1)] ++ b16 s ++ b16 d)).toArray) p3_11_1 hE wn_none tS27 rfl rfl rfl rfl B_g5 (Nat.le_of_ble_eq_true rfl) rfl ?_)
      intro w22 B_g5' hk
      replace B_g1 := kp_blk B_g1 hk n_g1_g5
      replace B_g18 := kp_blk B_g18 hk (Ne.symm n_g5_g18)
      replace K_0 := K_0.then_ hk (fun k h => by rw [show k = g5 from h]; exact Or.inr z_0_g5)
      replace B_g5 := B_g5'
      clear hk
      refine p_nil ?_
      refine x_norm ?_
      refine c_regL R3_12_l ?_
      refine p_cons (s_still p3_12_0 hE wn_none rfl (st_move rfl) ?_)
      clear hE a; intro a hE
      refine p_cons (s_still p3_12_1 hE wn_none rfl (st_add (z := (k : Int) + 1) rfl rfl (wr_i64 _ (by omega) (by omega))) ?_)
      clear hE a; intro a hE
      refine p_cons (s_still p3_12_2 hE wn_none rfl (st_assign rfl) ?_)
      clear hE a; intro a hE
      refine p_nil ?_
      refine x_normB ?_
      refine x_norm ?_
      refine c_regL R3_7_l ?_
      refine p_cons (s_still p3_7_0 hE wn_none rfl (st_move rfl) ?_)
      clear hE a; intro a hE
      refine p_cons (s_still p3_7_1 hE wn_none rfl (st_add (z := (k : Int) + 1) rfl rfl (wr_i64 _ (by omega) (by omega))) ?_)
      clear hE a; intro a hE
      refine p_cons (s_still p3_7_2 hE wn_none rfl (st_assign rfl) ?_)
      clear hE a; intro a hE
      refine p_nil ?_
      refine x_norm ?_
      have e1 : h - (k : Int) - 1 = h - ((k + 1 : Nat) : Int) := by omega
      rw [e1] at B_g5
      exact ⟨k + 1, by omega, En.sub hE ⟨rfl, rfl, rfl, rfl, rfl, rfl, trivial⟩, Or.inr (by omega), B_g1, B_g5, K_0⟩
theorem walk (l0 : List Value) (z0 : Int × Int × Int × Int × Int × (List (Int)) × (List (Int))) (w : World) (w0 : Kd.K (Kd.pair (Kd.int .i64) (Kd.pair (Kd.int .i64) (Kd.pair (Kd.int .i64) (Kd.pair (Kd.int .i64) (Kd.pair (Kd.int .i64) (Kd.pair (Kd.arr 16 (Kd.int .u8) (by decide)) (Kd.arr 16 (Kd.int .u8) (by decide)))))))) w z0 l0) (o0 : ((Lit.int .i64 z0.1).wf = true ∧ ((Lit.int .i64 z0.2.1).wf = true ∧ ((Lit.int .i64 z0.2.2.1).wf = true ∧ ((Lit.int .i64 z0.2.2.2.1).wf = true ∧ ((Lit.int .i64 z0.2.2.2.2.1).wf = true ∧ ((z0.2.2.2.2.2.1.length = 16 ∧ ∀ x0 ∈ z0.2.2.2.2.2.1, (Lit.int .u8 x0).wf = true) ∧ ((z0.2.2.2.2.2.2.length = 16 ∧ ∀ x0 ∈ z0.2.2.2.2.2.2, (Lit.int .u8 x0).wf = true))))))))) :
    Calls Try.prog 3 #[.agg ⟨l0⟩] w fun e w' => e = .returned (.bool true) ∧ Below w.heap.size w w' := by
  obtain ⟨c, f, l, x, h, s, d⟩ := z0
  obtain ⟨_, _, rfl, rfl, _, _, rfl, rfl, _, _, rfl, rfl, _, _, rfl, rfl, _, _, rfl, rfl, _, _, rfl, hs, hd⟩ := w0
  have es := arr16 hs
  have ed := arr16 hd
  subst es ed
  by_cases hok : okF c f l x h = true
  · exact (hops_ok c f l x h (fun i => s.getD i 0) (fun i => d.getD i 0) hok w).mono fun e w' hh => ⟨hh.1, hh.2.to (Nat.le_refl _) (fun _ h => h.elim)⟩
  · exact (hops_bad c f l x h (fun i => s.getD i 0) (fun i => d.getD i 0) (by simpa using hok) w).mono fun e w' hh => ⟨hh.1, hh.2.to (Nat.le_refl _) (fun _ h => h.elim)⟩
end Go.Proofs.Ytndiddfleidnaaa.Hops
