/- The document's Check and Encode of a header. -/
import Derived.Test.YtndiddfleidnaaaHdr
import Derived.LoopN
set_option maxRecDepth 100000
set_option linter.unusedVariables false
set_option linter.unusedSimpArgs false
namespace Go.Proofs.Ytndiddfleidnaaa.Rc
open Go.RowKit Go.Proofs.YtndiddfleidnaaaW.PrintWords Go.Proofs.Ytndiddfleidnaaa.Ds Go.Proofs.Ytndiddfleidnaaa.Cc Go.Proofs.Ytndiddfleidnaaa.Hd
open Go.Proofs.Ytndiddfleidnaaa.Pk (Kp fitsF spanF putF digF)
theorem own_blk {w : World} {g base : Nat} {T : TypeId} {cs : Array Value} {k : IntKind} {l : List Int} (hb : w.heap[g]? = some (.cells cs T (0, 0))) (hg : base ≤ g) (hc : cs.toList = encs (Value.int k) l) (hl : l.length ≤ maxLen) : w.ownsRow base T 1 (.slice (some ⟨g, 0, none⟩) l.length l.length) l.length (encs (Value.int k) l) := by
  have e : (encs (Value.int k) l).length = l.length := by simp [encs]
  refine ⟨by rw [e, Nat.mul_one], .inr ⟨g, l.length, cs, rfl, hg, hb, Nat.le_refl _, hl, ?_, ?_⟩⟩
  · rw [← Array.length_toList, hc, e, Nat.mul_one]
  · rw [hc, Nat.mul_one, List.take_of_length_le (Nat.le_of_eq e)]
theorem R20_0_l : List.range (regOf Try.f20 0).size = [0, 1] := by kernel_rfl
theorem R20_1_l : List.range (regOf Try.f20 1).size = [0, 1, 2, 3, 4, 5, 6, 7, 8, 9, 10, 11, 12] := by kernel_rfl
theorem R20_2_l : List.range (regOf Try.f20 2).size = [0, 1, 2] := by kernel_rfl
theorem R20_3_l : List.range (regOf Try.f20 3).size = [0] := by kernel_rfl
theorem R20_4_l : List.range (regOf Try.f20 4).size = [0, 1] := by kernel_rfl
theorem R20_6_l : List.range (regOf Try.f20 6).size = [0, 1, 2, 3, 4, 5, 6, 7, 8, 9, 10, 11, 12] := by kernel_rfl
theorem R20_7_l : List.range (regOf Try.f20 7).size = [0] := by kernel_rfl
theorem R20_5_l : List.range (regOf Try.f20 5).size = [0, 1, 2] := by kernel_rfl
theorem R20_8_l : List.range (regOf Try.f20 8).size = [0] := by kernel_rfl
theorem body20 : Try.f20.body = some (.seq (.region 0 (regOf Try.f20 0) false) (.seq (.region 1 (regOf Try.f20 1) false) (.seq (.region 2 (regOf Try.f20 2) false) (.seq (.seq (.region 3 (regOf Try.f20 3) false) (.block 0 (.loop (.seq (.seq (.region 4 (regOf Try.f20 4) false) (.cond (Operand.tmp 19) (.skip) (.exit 0))) (.seq (.block 1 (.seq (.region 6 (regOf Try.f20 6) true) (.cond (Operand.tmp 34) (.seq (.region 7 (regOf Try.f20 7) false) (.ret)) (.skip)))) (.region 5 (regOf Try.f20 5) false)))))) (.seq (.region 8 (regOf Try.f20 8) false) (.ret)))))) := by kernel_rfl
theorem p20_0_0 : pj (regOf Try.f20 0) 0 = some (some 1, Op.box 24 (Operand.tmp 0), 0, none) := by kernel_rfl
theorem p20_0_1 : pj (regOf Try.f20 0) 1 = some (some 2, Op.assign (Operand.const (Value.int IntKind.i64 0)), 3, none) := by kernel_rfl
theorem p20_1_0 : pj (regOf Try.f20 1) 0 = some (some 6, Op.fieldAddr 24 (Operand.tmp 1) 0, 0, none) := by kernel_rfl
theorem tS3 : (Try.prog.info? 3).map (·.size) = some 1 := by kernel_rfl
theorem p20_1_1 : pj (regOf Try.f20 1) 1 = some (some 7, Op.load 3 (Operand.tmp 6), 3, none) := by kernel_rfl
theorem tA3 : (Try.prog.underlying 3).map aggD = some false := by kernel_rfl
theorem p20_1_2 : pj (regOf Try.f20 1) 2 = some (some 8, Op.fieldAddr 24 (Operand.tmp 1) 1, 0, none) := by kernel_rfl
theorem p20_1_3 : pj (regOf Try.f20 1) 3 = some (some 9, Op.load 3 (Operand.tmp 8), 3, none) := by kernel_rfl
theorem p20_1_4 : pj (regOf Try.f20 1) 4 = some (some 10, Op.fieldAddr 24 (Operand.tmp 1) 2, 0, none) := by kernel_rfl
theorem p20_1_5 : pj (regOf Try.f20 1) 5 = some (some 11, Op.load 3 (Operand.tmp 10), 3, none) := by kernel_rfl
theorem p20_1_6 : pj (regOf Try.f20 1) 6 = some (some 12, Op.fieldAddr 24 (Operand.tmp 1) 3, 0, none) := by kernel_rfl
theorem p20_1_7 : pj (regOf Try.f20 1) 7 = some (some 13, Op.load 3 (Operand.tmp 12), 3, none) := by kernel_rfl
theorem p20_1_8 : pj (regOf Try.f20 1) 8 = some (some 14, Op.fieldAddr 24 (Operand.tmp 1) 4, 0, none) := by kernel_rfl
theorem p20_1_9 : pj (regOf Try.f20 1) 9 = some (some 15, Op.load 3 (Operand.tmp 14), 3, none) := by kernel_rfl
theorem p20_1_10 : pj (regOf Try.f20 1) 10 = some (some 16, Op.build 126 #[(0, Operand.tmp 7), (1, Operand.tmp 9), (2, Operand.tmp 11), (3, Operand.tmp 13), (4, Operand.tmp 15)], 126, none) := by kernel_rfl
theorem p20_1_11 : pj (regOf Try.f20 1) 11 = some (some 3, Op.alloc 126, 0, none) := by kernel_rfl
theorem tZ126 : (Try.prog.info? 126).bind (·.zero) = some (Value.agg #[Value.int .i64 0, Value.int .i64 0, Value.int .i64 0, Value.int .i64 0, Value.int .i64 0]) := by kernel_rfl
theorem p20_1_12 : pj (regOf Try.f20 1) 12 = some (none, Op.store 126 (Operand.tmp 3) (Operand.tmp 16), 0, none) := by kernel_rfl
theorem tS126 : (Try.prog.info? 126).map (·.size) = some 5 := by kernel_rfl
theorem p20_2_0 : pj (regOf Try.f20 2) 0 = some (some 17, Op.build 126 #[(0, Operand.const (Value.int IntKind.i64 255)), (1, Operand.const (Value.int IntKind.i64 1048575)), (2, Operand.const (Value.int IntKind.i64 65535)), (3, Operand.const (Value.int IntKind.i64 255)), (4, Operand.const (Value.int IntKind.i64 255))], 126, none) := by kernel_rfl
theorem p20_2_1 : pj (regOf Try.f20 2) 1 = some (some 4, Op.alloc 126, 0, none) := by kernel_rfl
theorem p20_2_2 : pj (regOf Try.f20 2) 2 = some (none, Op.store 126 (Operand.tmp 4) (Operand.tmp 17), 0, none) := by kernel_rfl
theorem p20_3_0 : pj (regOf Try.f20 3) 0 = some (some 5, Op.assign (Operand.const (Value.int IntKind.i64 0)), 3, none) := by kernel_rfl
theorem p20_4_0 : pj (regOf Try.f20 4) 0 = some (some 18, Op.move (Operand.tmp 5), 3, none) := by kernel_rfl
theorem p20_4_1 : pj (regOf Try.f20 4) 1 = some (some 19, Op.binOp BinOp.lss 3 (Operand.tmp 18) (Operand.const (Value.int IntKind.i64 5)) 3, 4, none) := by kernel_rfl
theorem ns20_6 : Region.noSelect (regOf Try.f20 6) = true := by kernel_rfl
theorem p20_6_0 : pj (regOf Try.f20 6) 0 = some (some 22, Op.move (Operand.tmp 5), 3, none) := by kernel_rfl
theorem p20_6_1 : pj (regOf Try.f20 6) 1 = some (some 23, Op.indexAddr 126 (Operand.tmp 3) (Operand.tmp 22), 0, none) := by kernel_rfl
theorem p20_6_2 : pj (regOf Try.f20 6) 2 = some (some 24, Op.load 3 (Operand.tmp 23), 3, none) := by kernel_rfl
theorem p20_6_3 : pj (regOf Try.f20 6) 3 = some (some 25, Op.binOp BinOp.lss 3 (Operand.tmp 24) (Operand.const (Value.int IntKind.i64 0)) 3, 4, none) := by kernel_rfl
theorem p20_6_4 : pj (regOf Try.f20 6) 4 = some (some 26, Op.move (Operand.tmp 25), 4, none) := by kernel_rfl
theorem g20_6_4 : dstOf (regOf Try.f20 6) 4 = some 26 := by kernel_rfl
theorem p20_6_5 : pj (regOf Try.f20 6) 5 = some (some 27, Op.move (Operand.tmp 5), 3, some (4, false)) := by kernel_rfl
theorem p20_6_6 : pj (regOf Try.f20 6) 6 = some (some 28, Op.indexAddr 126 (Operand.tmp 3) (Operand.tmp 27), 0, some (4, false)) := by kernel_rfl
theorem p20_6_7 : pj (regOf Try.f20 6) 7 = some (some 29, Op.load 3 (Operand.tmp 28), 3, some (4, false)) := by kernel_rfl
theorem p20_6_8 : pj (regOf Try.f20 6) 8 = some (some 30, Op.move (Operand.tmp 5), 3, some (4, false)) := by kernel_rfl
theorem p20_6_9 : pj (regOf Try.f20 6) 9 = some (some 31, Op.indexAddr 126 (Operand.tmp 4) (Operand.tmp 30), 0, some (4, false)) := by kernel_rfl
theorem p20_6_10 : pj (regOf Try.f20 6) 10 = some (some 32, Op.load 3 (Operand.tmp 31), 3, some (4, false)) := by kernel_rfl
theorem p20_6_11 : pj (regOf Try.f20 6) 11 = some (some 33, Op.binOp BinOp.gtr 3 (Operand.tmp 29) (Operand.tmp 32) 3, 4, some (4, false)) := by kernel_rfl
theorem p20_6_12 : pj (regOf Try.f20 6) 12 = some (some 34, Op.pick (Operand.tmp 26) (Operand.const (Value.bool true)) (Operand.tmp 33), 4, none) := by kernel_rfl
theorem p20_7_0 : pj (regOf Try.f20 7) 0 = some (some 2, Op.assign (Operand.const (Value.int IntKind.i64 1)), 3, none) := by kernel_rfl
theorem p20_5_0 : pj (regOf Try.f20 5) 0 = some (some 20, Op.move (Operand.tmp 5), 3, none) := by kernel_rfl
theorem p20_5_1 : pj (regOf Try.f20 5) 1 = some (some 21, Op.binOp BinOp.add 3 (Operand.tmp 20) (Operand.const (Value.int IntKind.i64 1)) 3, 3, none) := by kernel_rfl
theorem p20_5_2 : pj (regOf Try.f20 5) 2 = some (some 5, Op.assign (Operand.tmp 21), 3, none) := by kernel_rfl
theorem p20_8_0 : pj (regOf Try.f20 8) 0 = some (some 2, Op.assign (Operand.const (Value.int IntKind.i64 0)), 3, none) := by kernel_rfl
set_option maxHeartbeats 4000000 in
theorem rchk_R {R : Ending → World → Prop} (c f l x h : Int) (s d : Nat → Int) (w : World) (h0 : okF c f l x h = true → ∀ w', Kp w w' (fun _ => False) → R (.returned (.int .i64 0)) w') (h1 : okF c f l x h = false → ∀ w', Kp w w' (fun _ => False) → R (.returned (.int .i64 1)) w') : Calls Try.prog 20 #[Value.agg (([Value.int .i64 c, Value.int .i64 f, Value.int .i64 l, Value.int .i64 x, Value.int .i64 h] ++ b16 s ++ b16 d)).toArray] w R := by
  have K_0 := Kp.refl w (fun _ => False)
  refine enter (args := [Value.agg (([Value.int .i64 c, Value.int .i64 f, Value.int .i64 l, Value.int .i64 x, Value.int .i64 h] ++ b16 s ++ b16 d)).toArray]) (n := 35) Try.func20 body20 rfl rfl rfl ?_
  intro a hE
  refine c_reg R20_0_l ?_
  refine p_cons (s_box p20_0_0 hE wn_none rfl rfl ?_)
  clear hE a; intro g1 w2 z3 B_g1 hk a hE
  replace B_g1 : w2.heap[g1]? = some (.cells (([Value.int .i64 c, Value.int .i64 f, Value.int .i64 l, Value.int .i64 x, Value.int .i64 h] ++ b16 s ++ b16 d)).toArray 24 (0, 0)) := B_g1
  have z_0_g1 := Nat.le_trans K_0.kept.1 z3
  replace K_0 := K_0.then_ hk (fun _ h => h.elim)
  clear hk
  refine p_cons (s_still p20_0_1 hE wn_none rfl (st_assign rfl) ?_)
  clear hE a; intro a hE
  refine p_nil ?_
  refine x_norm ?_
  refine c_reg R20_1_l ?_
  refine p_cons (s_still p20_1_0 hE wn_none rfl (st_fieldAddr Try.underlying24 rfl tS3 rfl rfl) ?_)
  clear hE a; intro a hE
  refine p_cons (s_still p20_1_1 hE wn_none rfl (st_load1 tA3 rfl ((blk_cell B_g1 0).trans rfl)) ?_)
  clear hE a; intro a hE
  refine p_cons (s_still p20_1_2 hE wn_none rfl (st_fieldAddr Try.underlying24 rfl tS3 rfl rfl) ?_)
  clear hE a; intro a hE
  refine p_cons (s_still p20_1_3 hE wn_none rfl (st_load1 tA3 rfl ((blk_cell B_g1 1).trans rfl)) ?_)
  clear hE a; intro a hE
  refine p_cons (s_still p20_1_4 hE wn_none rfl (st_fieldAddr Try.underlying24 rfl tS3 rfl rfl) ?_)
  clear hE a; intro a hE
  refine p_cons (s_still p20_1_5 hE wn_none rfl (st_load1 tA3 rfl ((blk_cell B_g1 2).trans rfl)) ?_)
  clear hE a; intro a hE
  refine p_cons (s_still p20_1_6 hE wn_none rfl (st_fieldAddr Try.underlying24 rfl tS3 rfl rfl) ?_)
  clear hE a; intro a hE
  refine p_cons (s_still p20_1_7 hE wn_none rfl (st_load1 tA3 rfl ((blk_cell B_g1 3).trans rfl)) ?_)
  clear hE a; intro a hE
  refine p_cons (s_still p20_1_8 hE wn_none rfl (st_fieldAddr Try.underlying24 rfl tS3 rfl rfl) ?_)
  clear hE a; intro a hE
  refine p_cons (s_still p20_1_9 hE wn_none rfl (st_load1 tA3 rfl ((blk_cell B_g1 4).trans rfl)) ?_)
  clear hE a; intro a hE
  refine p_cons (s_still p20_1_10 hE wn_none rfl (st_build (xs := [(0, Operand.tmp 7), (1, Operand.tmp 9), (2, Operand.tmp 11), (3, Operand.tmp 13), (4, Operand.tmp 15)]) (vs := [(0, Value.int .i64 c), (1, Value.int .i64 f), (2, Value.int .i64 l), (3, Value.int .i64 x), (4, Value.int .i64 h)]) (cs := #[Value.int .i64 c, Value.int .i64 f, Value.int .i64 l, Value.int .i64 x, Value.int .i64 h]) rfl (by kernel_rfl)) ?_)
  clear hE a; intro a hE
  refine p_cons (s_alloc p20_1_11 hE wn_none rfl tZ126 ?_)
  clear hE a; intro g4 w5 z6 B_g4 hk a hE
  replace B_g4 : w5.heap[g4]? = some (.cells #[Value.int .i64 0, Value.int .i64 0, Value.int .i64 0, Value.int .i64 0, Value.int .i64 0] 126 (0, 0)) := B_g4
  have n_g1_g4 : g1 ≠ g4 := ne_new B_g1 z6
  have z_0_g4 := Nat.le_trans K_0.kept.1 z6
  replace B_g1 := kp_blk B_g1 hk (fun h => h)
  replace K_0 := K_0.then_ hk (fun _ h => h.elim)
  clear hk
  refine p_cons (s_store (off := 0) (k := 5) (cs' := #[Value.int .i64 c, Value.int .i64 f, Value.int .i64 l, Value.int .i64 x, Value.int .i64 h]) p20_1_12 hE wn_none tS126 rfl rfl rfl rfl B_g4 (Nat.le_of_ble_eq_true rfl) rfl ?_)
  intro w7 B_g4' hk
  replace B_g1 := kp_blk B_g1 hk n_g1_g4
  replace K_0 := K_0.then_ hk (fun k h => by rw [show k = g4 from h]; exact Or.inr z_0_g4)
  replace B_g4 := B_g4'
  clear hk
  refine p_nil ?_
  refine x_norm ?_
  refine c_reg R20_2_l ?_
  refine p_cons (s_still p20_2_0 hE wn_none rfl (st_build (xs := [(0, Operand.const (Value.int IntKind.i64 255)), (1, Operand.const (Value.int IntKind.i64 1048575)), (2, Operand.const (Value.int IntKind.i64 65535)), (3, Operand.const (Value.int IntKind.i64 255)), (4, Operand.const (Value.int IntKind.i64 255))]) (vs := [(0, Value.int .i64 255), (1, Value.int .i64 1048575), (2, Value.int .i64 65535), (3, Value.int .i64 255), (4, Value.int .i64 255)]) (cs := #[Value.int .i64 255, Value.int .i64 1048575, Value.int .i64 65535, Value.int .i64 255, Value.int .i64 255]) rfl (by kernel_rfl)) ?_)
  clear hE a; intro a hE
  refine p_cons (s_alloc p20_2_1 hE wn_none rfl tZ126 ?_)
  clear hE a; intro g8 w9 z10 B_g8 hk a hE
  replace B_g8 : w9.heap[g8]? = some (.cells #[Value.int .i64 0, Value.int .i64 0, Value.int .i64 0, Value.int .i64 0, Value.int .i64 0] 126 (0, 0)) := B_g8
  have n_g1_g8 : g1 ≠ g8 := ne_new B_g1 z10
  have n_g4_g8 : g4 ≠ g8 := ne_new B_g4 z10
  have z_0_g8 := Nat.le_trans K_0.kept.1 z10
  replace B_g1 := kp_blk B_g1 hk (fun h => h)
  replace B_g4 := kp_blk B_g4 hk (fun h => h)
  replace K_0 := K_0.then_ hk (fun _ h => h.elim)
  clear hk
  refine p_cons (s_store (off := 0) (k := 5) (cs' := #[Value.int .i64 255, Value.int .i64 1048575, Value.int .i64 65535, Value.int .i64 255, Value.int .i64 255]) p20_2_2 hE wn_none tS126 rfl rfl rfl rfl B_g8 (Nat.le_of_ble_eq_true rfl) rfl ?_)
  intro w11 B_g8' hk
  replace B_g1 := kp_blk B_g1 hk n_g1_g8
  replace B_g4 := kp_blk B_g4 hk n_g4_g8
  replace K_0 := K_0.then_ hk (fun k h => by rw [show k = g8 from h]; exact Or.inr z_0_g8)
  replace B_g8 := B_g8'
  clear hk
  refine p_nil ?_
  refine x_norm ?_
  refine wp_seq ?_
  refine c_reg R20_3_l ?_
  refine p_cons (s_still p20_3_0 hE wn_none rfl (st_assign rfl) ?_)
  clear hE a; intro a hE
  refine p_nil ?_
  refine x_norm ?_
  refine wp_block ?_
  refine wp_loop_rounds 6 ?_
  refine (Eq.mpr (rounds_succ (n := 5)) ?_)
  refine wp_seq ?_
  refine c_reg R20_4_l ?_
  refine p_cons (s_still p20_4_0 hE wn_none rfl (st_move rfl) ?_)
  clear hE a; intro a hE
  refine p_cons (s_still p20_4_1 hE wn_none rfl (st_lss (b := true) rfl rfl (by decide)) ?_)
  clear hE a; intro a hE
  refine p_nil ?_
  refine x_norm ?_
  refine c_cond (t := true) hE rfl ?_
  refine wp_skip ?_
  refine x_norm ?_
  refine wp_seq ?_
  refine wp_block ?_
  rcases Decidable.em (c < 0) with hl0 | hl0
  ·
    refine c_drawS (S := fun W => W.heap[g1]? = some (.cells (([Value.int .i64 c, Value.int .i64 f, Value.int .i64 l, Value.int .i64 x, Value.int .i64 h] ++ b16 s ++ b16 d)).toArray 24 (0, 0)) ∧ W.heap[g4]? = some (.cells #[Value.int .i64 c, Value.int .i64 f, Value.int .i64 l, Value.int .i64 x, Value.int .i64 h] 126 (0, 0)) ∧ W.heap[g8]? = some (.cells #[Value.int .i64 255, Value.int .i64 1048575, Value.int .i64 65535, Value.int .i64 255, Value.int .i64 255] 126 (0, 0)) ∧ True) rfl rfl (listed := #[false, false, false, false, false, false, false, false, false, false, false, false, false]) rfl ?_
    intro w12 hh hk
    replace B_g1 := kp_blk B_g1 hk (fun h => h)
    replace B_g4 := kp_blk B_g4 hk (fun h => h)
    replace B_g8 := kp_blk B_g8 hk (fun h => h)
    replace K_0 := K_0.then_ hk (fun _ h => h.elim)
    clear hh hk
    refine d_take (v := Value.int .i64 0) p20_6_0 ns20_6 (by kernel_rfl) (by kernel_rfl) (fun _ _ _ h => h) hE wn_none rfl ⟨B_g1, B_g4, B_g8, trivial⟩ (fun W hS => (st_move rfl)) rfl ?_
    clear hE a; intro a hE
    refine d_take (v := Value.pointer (some ⟨g4, 0, none⟩)) p20_6_1 ns20_6 (by kernel_rfl) (by kernel_rfl) (fun _ _ _ h => h) hE wn_none rfl ⟨B_g1, B_g4, B_g8, trivial⟩ (fun W hS => (st_indexAddrA (l := 5) (i := 0) Try.underlying126 tS3 rfl rfl (by decide) rfl)) rfl ?_
    clear hE a; intro a hE
    refine d_take (v := Value.int .i64 c) p20_6_2 ns20_6 (by kernel_rfl) (by kernel_rfl) (fun _ _ _ h => h) hE wn_none rfl ⟨B_g1, B_g4, B_g8, trivial⟩ (fun W hS => (st_load1 tA3 rfl ((blk_cell hS.2.1 0).trans rfl))) rfl ?_
    clear hE a; intro a hE
    refine d_take (v := Value.bool true) p20_6_3 ns20_6 (by kernel_rfl) (by kernel_rfl) (fun _ _ _ h => h) hE wn_none rfl ⟨B_g1, B_g4, B_g8, trivial⟩ (fun W hS => (st_lss (b := true) rfl rfl (decide_eq_true hl0))) rfl ?_
    clear hE a; intro a hE
    refine d_take (v := Value.bool true) p20_6_4 ns20_6 (by kernel_rfl) (by kernel_rfl) (fun _ _ _ h => h) hE wn_none rfl ⟨B_g1, B_g4, B_g8, trivial⟩ (fun W hS => (st_move rfl)) rfl ?_
    clear hE a; intro a hE
    refine d_skip p20_6_5 ns20_6 (by kernel_rfl) (by kernel_rfl) (fun _ _ _ h => h) hE (wn_some g20_6_4 rfl rfl) rfl ⟨B_g1, B_g4, B_g8, trivial⟩ rfl ?_
    clear hE a; intro a hE
    refine d_skip p20_6_6 ns20_6 (by kernel_rfl) (by kernel_rfl) (fun _ _ _ h => h) hE (wn_some g20_6_4 rfl rfl) rfl ⟨B_g1, B_g4, B_g8, trivial⟩ rfl ?_
    clear hE a; intro a hE
    refine d_skip p20_6_7 ns20_6 (by kernel_rfl) (by kernel_rfl) (fun _ _ _ h => h) hE (wn_some g20_6_4 rfl rfl) rfl ⟨B_g1, B_g4, B_g8, trivial⟩ rfl ?_
    clear hE a; intro a hE
    refine d_skip p20_6_8 ns20_6 (by kernel_rfl) (by kernel_rfl) (fun _ _ _ h => h) hE (wn_some g20_6_4 rfl rfl) rfl ⟨B_g1, B_g4, B_g8, trivial⟩ rfl ?_
    clear hE a; intro a hE
    refine d_skip p20_6_9 ns20_6 (by kernel_rfl) (by kernel_rfl) (fun _ _ _ h => h) hE (wn_some g20_6_4 rfl rfl) rfl ⟨B_g1, B_g4, B_g8, trivial⟩ rfl ?_
    clear hE a; intro a hE
    refine d_skip p20_6_10 ns20_6 (by kernel_rfl) (by kernel_rfl) (fun _ _ _ h => h) hE (wn_some g20_6_4 rfl rfl) rfl ⟨B_g1, B_g4, B_g8, trivial⟩ rfl ?_
    clear hE a; intro a hE
    refine d_skip p20_6_11 ns20_6 (by kernel_rfl) (by kernel_rfl) (fun _ _ _ h => h) hE (wn_some g20_6_4 rfl rfl) rfl ⟨B_g1, B_g4, B_g8, trivial⟩ rfl ?_
    clear hE a; intro a hE
    refine d_take (v := Value.bool true) p20_6_12 ns20_6 (by kernel_rfl) (by kernel_rfl) (fun _ _ _ h => h) hE wn_none rfl ⟨B_g1, B_g4, B_g8, trivial⟩ (fun W hS => (st_pick rfl rfl)) rfl ?_
    clear hE a; intro a hE
    refine d_end (by kernel_rfl) ?_
    refine x_norm ?_
    refine c_cond (t := true) hE rfl ?_
    refine c_reg R20_7_l ?_
    refine p_cons (s_still p20_7_0 hE wn_none rfl (st_assign rfl) ?_)
    clear hE a; intro a hE
    refine p_nil ?_
    refine x_norm ?_
    refine wp_ret ?_
    refine x_retB ?_
    refine x_ret ?_
    refine x_ret ?_
    refine x_retB ?_
    refine x_ret ?_
    refine ret_one (v := Value.int .i64 1) rfl hE (.tmp rfl .nil) ?_
    exact h1 (by rcases hb : okF c f l x h with _ | _; rfl; obtain ⟨_, _, _, _, _⟩ := okF_of hb; omega) _ K_0
  ·
    rcases Decidable.em (255 < c) with hh0 | hh0
    ·
      refine c_drawS (S := fun W => W.heap[g1]? = some (.cells (([Value.int .i64 c, Value.int .i64 f, Value.int .i64 l, Value.int .i64 x, Value.int .i64 h] ++ b16 s ++ b16 d)).toArray 24 (0, 0)) ∧ W.heap[g4]? = some (.cells #[Value.int .i64 c, Value.int .i64 f, Value.int .i64 l, Value.int .i64 x, Value.int .i64 h] 126 (0, 0)) ∧ W.heap[g8]? = some (.cells #[Value.int .i64 255, Value.int .i64 1048575, Value.int .i64 65535, Value.int .i64 255, Value.int .i64 255] 126 (0, 0)) ∧ True) rfl rfl (listed := #[false, false, false, false, false, false, false, false, false, false, false, false, false]) rfl ?_
      intro w13 hh hk
      replace B_g1 := kp_blk B_g1 hk (fun h => h)
      replace B_g4 := kp_blk B_g4 hk (fun h => h)
      replace B_g8 := kp_blk B_g8 hk (fun h => h)
      replace K_0 := K_0.then_ hk (fun _ h => h.elim)
      clear hh hk
      refine d_take (v := Value.int .i64 0) p20_6_0 ns20_6 (by kernel_rfl) (by kernel_rfl) (fun _ _ _ h => h) hE wn_none rfl ⟨B_g1, B_g4, B_g8, trivial⟩ (fun W hS => (st_move rfl)) rfl ?_
      clear hE a; intro a hE
      refine d_take (v := Value.pointer (some ⟨g4, 0, none⟩)) p20_6_1 ns20_6 (by kernel_rfl) (by kernel_rfl) (fun _ _ _ h => h) hE wn_none rfl ⟨B_g1, B_g4, B_g8, trivial⟩ (fun W hS => (st_indexAddrA (l := 5) (i := 0) Try.underlying126 tS3 rfl rfl (by decide) rfl)) rfl ?_
      clear hE a; intro a hE
      refine d_take (v := Value.int .i64 c) p20_6_2 ns20_6 (by kernel_rfl) (by kernel_rfl) (fun _ _ _ h => h) hE wn_none rfl ⟨B_g1, B_g4, B_g8, trivial⟩ (fun W hS => (st_load1 tA3 rfl ((blk_cell hS.2.1 0).trans rfl))) rfl ?_
      clear hE a; intro a hE
      refine d_take (v := Value.bool false) p20_6_3 ns20_6 (by kernel_rfl) (by kernel_rfl) (fun _ _ _ h => h) hE wn_none rfl ⟨B_g1, B_g4, B_g8, trivial⟩ (fun W hS => (st_lss (b := false) rfl rfl (decide_eq_false hl0))) rfl ?_
      clear hE a; intro a hE
      refine d_take (v := Value.bool false) p20_6_4 ns20_6 (by kernel_rfl) (by kernel_rfl) (fun _ _ _ h => h) hE wn_none rfl ⟨B_g1, B_g4, B_g8, trivial⟩ (fun W hS => (st_move rfl)) rfl ?_
      clear hE a; intro a hE
      refine d_take (v := Value.int .i64 0) p20_6_5 ns20_6 (by kernel_rfl) (by kernel_rfl) (fun _ _ _ h => h) hE (wn_some g20_6_4 rfl rfl) rfl ⟨B_g1, B_g4, B_g8, trivial⟩ (fun W hS => (st_move rfl)) rfl ?_
      clear hE a; intro a hE
      refine d_take (v := Value.pointer (some ⟨g4, 0, none⟩)) p20_6_6 ns20_6 (by kernel_rfl) (by kernel_rfl) (fun _ _ _ h => h) hE (wn_some g20_6_4 rfl rfl) rfl ⟨B_g1, B_g4, B_g8, trivial⟩ (fun W hS => (st_indexAddrA (l := 5) (i := 0) Try.underlying126 tS3 rfl rfl (by decide) rfl)) rfl ?_
      clear hE a; intro a hE
      refine d_take (v := Value.int .i64 c) p20_6_7 ns20_6 (by kernel_rfl) (by kernel_rfl) (fun _ _ _ h => h) hE (wn_some g20_6_4 rfl rfl) rfl ⟨B_g1, B_g4, B_g8, trivial⟩ (fun W hS => (st_load1 tA3 rfl ((blk_cell hS.2.1 0).trans rfl))) rfl ?_
      clear hE a; intro a hE
      refine d_take (v := Value.int .i64 0) p20_6_8 ns20_6 (by kernel_rfl) (by kernel_rfl) (fun _ _ _ h => h) hE (wn_some g20_6_4 rfl rfl) rfl ⟨B_g1, B_g4, B_g8, trivial⟩ (fun W hS => (st_move rfl)) rfl ?_
      clear hE a; intro a hE
      refine d_take (v := Value.pointer (some ⟨g8, 0, none⟩)) p20_6_9 ns20_6 (by kernel_rfl) (by kernel_rfl) (fun _ _ _ h => h) hE (wn_some g20_6_4 rfl rfl) rfl ⟨B_g1, B_g4, B_g8, trivial⟩ (fun W hS => (st_indexAddrA (l := 5) (i := 0) Try.underlying126 tS3 rfl rfl (by decide) rfl)) rfl ?_
      clear hE a; intro a hE
      refine d_take (v := Value.int .i64 255) p20_6_10 ns20_6 (by kernel_rfl) (by kernel_rfl) (fun _ _ _ h => h) hE (wn_some g20_6_4 rfl rfl) rfl ⟨B_g1, B_g4, B_g8, trivial⟩ (fun W hS => (st_load1 tA3 rfl ((blk_cell hS.2.2.1 0).trans rfl))) rfl ?_
      clear hE a; intro a hE
      refine d_take (v := Value.bool true) p20_6_11 ns20_6 (by kernel_rfl) (by kernel_rfl) (fun _ _ _ h => h) hE (wn_some g20_6_4 rfl rfl) rfl ⟨B_g1, B_g4, B_g8, trivial⟩ (fun W hS => (st_gtr (b := true) rfl rfl (decide_eq_true hh0))) rfl ?_
      clear hE a; intro a hE
      refine d_take (v := Value.bool true) p20_6_12 ns20_6 (by kernel_rfl) (by kernel_rfl) (fun _ _ _ h => h) hE wn_none rfl ⟨B_g1, B_g4, B_g8, trivial⟩ (fun W hS => (st_pick rfl rfl)) rfl ?_
      clear hE a; intro a hE
      refine d_end (by kernel_rfl) ?_
      refine x_norm ?_
      refine c_cond (t := true) hE rfl ?_
      refine c_reg R20_7_l ?_
      refine p_cons (s_still p20_7_0 hE wn_none rfl (st_assign rfl) ?_)
      clear hE a; intro a hE
      refine p_nil ?_
      refine x_norm ?_
      refine wp_ret ?_
      refine x_retB ?_
      refine x_ret ?_
      refine x_ret ?_
      refine x_retB ?_
      refine x_ret ?_
      refine ret_one (v := Value.int .i64 1) rfl hE (.tmp rfl .nil) ?_
      exact h1 (by rcases hb : okF c f l x h with _ | _; rfl; obtain ⟨_, _, _, _, _⟩ := okF_of hb; omega) _ K_0
    ·
      refine c_drawS (S := fun W => W.heap[g1]? = some (.cells (([Value.int .i64 c, Value.int .i64 f, Value.int .i64 l, Value.int .i64 x, Value.int .i64 h] ++ b16 s ++ b16 d)).toArray 24 (0, 0)) ∧ W.heap[g4]? = some (.cells #[Value.int .i64 c, Value.int .i64 f, Value.int .i64 l, Value.int .i64 x, Value.int .i64 h] 126 (0, 0)) ∧ W.heap[g8]? = some (.cells #[Value.int .i64 255, Value.int .i64 1048575, Value.int .i64 65535, Value.int .i64 255, Value.int .i64 255] 126 (0, 0)) ∧ True) rfl rfl (listed := #[false, false, false, false, false, false, false, false, false, false, false, false, false]) rfl ?_
      intro w14 hh hk
      replace B_g1 := kp_blk B_g1 hk (fun h => h)
      replace B_g4 := kp_blk B_g4 hk (fun h => h)
      replace B_g8 := kp_blk B_g8 hk (fun h => h)
      replace K_0 := K_0.then_ hk (fun _ h => h.elim)
      clear hh hk
      refine d_take (v := Value.int .i64 0) p20_6_0 ns20_6 (by kernel_rfl) (by kernel_rfl) (fun _ _ _ h => h) hE wn_none rfl ⟨B_g1, B_g4, B_g8, trivial⟩ (fun W hS => (st_move rfl)) rfl ?_
      clear hE a; intro a hE
      refine d_take (v := Value.pointer (some ⟨g4, 0, none⟩)) p20_6_1 ns20_6 (by kernel_rfl) (by kernel_rfl) (fun _ _ _ h => h) hE wn_none rfl ⟨B_g1, B_g4, B_g8, trivial⟩ (fun W hS => (st_indexAddrA (l := 5) (i := 0) Try.underlying126 tS3 rfl rfl (by decide) rfl)) rfl ?_
      clear hE a; intro a hE
      refine d_take (v := Value.int .i64 c) p20_6_2 ns20_6 (by kernel_rfl) (by kernel_rfl) (fun _ _ _ h => h) hE wn_none rfl ⟨B_g1, B_g4, B_g8, trivial⟩ (fun W hS => (st_load1 tA3 rfl ((blk_cell hS.2.1 0).trans rfl))) rfl ?_
      clear hE a; intro a hE
      refine d_take (v := Value.bool false) p20_6_3 ns20_6 (by kernel_rfl) (by kernel_rfl) (fun _ _ _ h => h) hE wn_none rfl ⟨B_g1, B_g4, B_g8, trivial⟩ (fun W hS => (st_lss (b := false) rfl rfl (decide_eq_false hl0))) rfl ?_
      clear hE a; intro a hE
      refine d_take (v := Value.bool false) p20_6_4 ns20_6 (by kernel_rfl) (by kernel_rfl) (fun _ _ _ h => h) hE wn_none rfl ⟨B_g1, B_g4, B_g8, trivial⟩ (fun W hS => (st_move rfl)) rfl ?_
      clear hE a; intro a hE
      refine d_take (v := Value.int .i64 0) p20_6_5 ns20_6 (by kernel_rfl) (by kernel_rfl) (fun _ _ _ h => h) hE (wn_some g20_6_4 rfl rfl) rfl ⟨B_g1, B_g4, B_g8, trivial⟩ (fun W hS => (st_move rfl)) rfl ?_
      clear hE a; intro a hE
      refine d_take (v := Value.pointer (some ⟨g4, 0, none⟩)) p20_6_6 ns20_6 (by kernel_rfl) (by kernel_rfl) (fun _ _ _ h => h) hE (wn_some g20_6_4 rfl rfl) rfl ⟨B_g1, B_g4, B_g8, trivial⟩ (fun W hS => (st_indexAddrA (l := 5) (i := 0) Try.underlying126 tS3 rfl rfl (by decide) rfl)) rfl ?_
      clear hE a; intro a hE
      refine d_take (v := Value.int .i64 c) p20_6_7 ns20_6 (by kernel_rfl) (by kernel_rfl) (fun _ _ _ h => h) hE (wn_some g20_6_4 rfl rfl) rfl ⟨B_g1, B_g4, B_g8, trivial⟩ (fun W hS => (st_load1 tA3 rfl ((blk_cell hS.2.1 0).trans rfl))) rfl ?_
      clear hE a; intro a hE
      refine d_take (v := Value.int .i64 0) p20_6_8 ns20_6 (by kernel_rfl) (by kernel_rfl) (fun _ _ _ h => h) hE (wn_some g20_6_4 rfl rfl) rfl ⟨B_g1, B_g4, B_g8, trivial⟩ (fun W hS => (st_move rfl)) rfl ?_
      clear hE a; intro a hE
      refine d_take (v := Value.pointer (some ⟨g8, 0, none⟩)) p20_6_9 ns20_6 (by kernel_rfl) (by kernel_rfl) (fun _ _ _ h => h) hE (wn_some g20_6_4 rfl rfl) rfl ⟨B_g1, B_g4, B_g8, trivial⟩ (fun W hS => (st_indexAddrA (l := 5) (i := 0) Try.underlying126 tS3 rfl rfl (by decide) rfl)) rfl ?_
      clear hE a; intro a hE
      refine d_take (v := Value.int .i64 255) p20_6_10 ns20_6 (by kernel_rfl) (by kernel_rfl) (fun _ _ _ h => h) hE (wn_some g20_6_4 rfl rfl) rfl ⟨B_g1, B_g4, B_g8, trivial⟩ (fun W hS => (st_load1 tA3 rfl ((blk_cell hS.2.2.1 0).trans rfl))) rfl ?_
      clear hE a; intro a hE
      refine d_take (v := Value.bool false) p20_6_11 ns20_6 (by kernel_rfl) (by kernel_rfl) (fun _ _ _ h => h) hE (wn_some g20_6_4 rfl rfl) rfl ⟨B_g1, B_g4, B_g8, trivial⟩ (fun W hS => (st_gtr (b := false) rfl rfl (decide_eq_false hh0))) rfl ?_
      clear hE a; intro a hE
      refine d_take (v := Value.bool false) p20_6_12 ns20_6 (by kernel_rfl) (by kernel_rfl) (fun _ _ _ h => h) hE wn_none rfl ⟨B_g1, B_g4, B_g8, trivial⟩ (fun W hS => (st_pick rfl rfl)) rfl ?_
      clear hE a; intro a hE
      refine d_end (by kernel_rfl) ?_
      refine x_norm ?_
      refine c_cond (t := false) hE rfl ?_
      refine wp_skip ?_
      refine x_normB ?_
      refine x_norm ?_
      refine c_regL R20_5_l ?_
      refine p_cons (s_still p20_5_0 hE wn_none rfl (st_move rfl) ?_)
      clear hE a; intro a hE
      refine p_cons (s_still p20_5_1 hE wn_none rfl (st_add (z := 1) rfl rfl (by decide)) ?_)
      clear hE a; intro a hE
      refine p_cons (s_still p20_5_2 hE wn_none rfl (st_assign rfl) ?_)
      clear hE a; intro a hE
      refine p_nil ?_
      refine x_norm ?_
      refine (Eq.mpr (rounds_succ (n := 4)) ?_)
      refine wp_seq ?_
      refine c_reg R20_4_l ?_
      refine p_cons (s_still p20_4_0 hE wn_none rfl (st_move rfl) ?_)
      clear hE a; intro a hE
      refine p_cons (s_still p20_4_1 hE wn_none rfl (st_lss (b := true) rfl rfl (by decide)) ?_)
      clear hE a; intro a hE
      refine p_nil ?_
      refine x_norm ?_
      refine c_cond (t := true) hE rfl ?_
      refine wp_skip ?_
      refine x_norm ?_
      refine wp_seq ?_
      refine wp_block ?_
      rcases Decidable.em (f < 0) with hl1 | hl1
      ·
        refine c_drawS (S := fun W => W.heap[g1]? = some (.cells (([Value.int .i64 c, Value.int .i64 f, Value.int .i64 l, Value.int .i64 x, Value.int .i64 h] ++ b16 s ++ b16 d)).toArray 24 (0, 0)) ∧ W.heap[g4]? = some (.cells #[Value.int .i64 c, Value.int .i64 f, Value.int .i64 l, Value.int .i64 x, Value.int .i64 h] 126 (0, 0)) ∧ W.heap[g8]? = some (.cells #[Value.int .i64 255, Value.int .i64 1048575, Value.int .i64 65535, Value.int .i64 255, Value.int .i64 255] 126 (0, 0)) ∧ True) rfl rfl (listed := #[false, false, false, false, false, false, false, false, false, false, false, false, false]) rfl ?_
        intro w15 hh hk
        replace B_g1 := kp_blk B_g1 hk (fun h => h)
        replace B_g4 := kp_blk B_g4 hk (fun h => h)
        replace B_g8 := kp_blk B_g8 hk (fun h => h)
        replace K_0 := K_0.then_ hk (fun _ h => h.elim)
        clear hh hk
        refine d_take (v := Value.int .i64 1) p20_6_0 ns20_6 (by kernel_rfl) (by kernel_rfl) (fun _ _ _ h => h) hE wn_none rfl ⟨B_g1, B_g4, B_g8, trivial⟩ (fun W hS => (st_move rfl)) rfl ?_
        clear hE a; intro a hE
        refine d_take (v := Value.pointer (some ⟨g4, 1, none⟩)) p20_6_1 ns20_6 (by kernel_rfl) (by kernel_rfl) (fun _ _ _ h => h) hE wn_none rfl ⟨B_g1, B_g4, B_g8, trivial⟩ (fun W hS => (st_indexAddrA (l := 5) (i := 1) Try.underlying126 tS3 rfl rfl (by decide) rfl)) rfl ?_
        clear hE a; intro a hE
        refine d_take (v := Value.int .i64 f) p20_6_2 ns20_6 (by kernel_rfl) (by kernel_rfl) (fun _ _ _ h => h) hE wn_none rfl ⟨B_g1, B_g4, B_g8, trivial⟩ (fun W hS => (st_load1 tA3 rfl ((blk_cell hS.2.1 1).trans rfl))) rfl ?_
        clear hE a; intro a hE
        refine d_take (v := Value.bool true) p20_6_3 ns20_6 (by kernel_rfl) (by kernel_rfl) (fun _ _ _ h => h) hE wn_none rfl ⟨B_g1, B_g4, B_g8, trivial⟩ (fun W hS => (st_lss (b := true) rfl rfl (decide_eq_true hl1))) rfl ?_
        clear hE a; intro a hE
        refine d_take (v := Value.bool true) p20_6_4 ns20_6 (by kernel_rfl) (by kernel_rfl) (fun _ _ _ h => h) hE wn_none rfl ⟨B_g1, B_g4, B_g8, trivial⟩ (fun W hS => (st_move rfl)) rfl ?_
        clear hE a; intro a hE
        refine d_skip p20_6_5 ns20_6 (by kernel_rfl) (by kernel_rfl) (fun _ _ _ h => h) hE (wn_some g20_6_4 rfl rfl) rfl ⟨B_g1, B_g4, B_g8, trivial⟩ rfl ?_
        clear hE a; intro a hE
        refine d_skip p20_6_6 ns20_6 (by kernel_rfl) (by kernel_rfl) (fun _ _ _ h => h) hE (wn_some g20_6_4 rfl rfl) rfl ⟨B_g1, B_g4, B_g8, trivial⟩ rfl ?_
        clear hE a; intro a hE
        refine d_skip p20_6_7 ns20_6 (by kernel_rfl) (by kernel_rfl) (fun _ _ _ h => h) hE (wn_some g20_6_4 rfl rfl) rfl ⟨B_g1, B_g4, B_g8, trivial⟩ rfl ?_
        clear hE a; intro a hE
        refine d_skip p20_6_8 ns20_6 (by kernel_rfl) (by kernel_rfl) (fun _ _ _ h => h) hE (wn_some g20_6_4 rfl rfl) rfl ⟨B_g1, B_g4, B_g8, trivial⟩ rfl ?_
        clear hE a; intro a hE
        refine d_skip p20_6_9 ns20_6 (by kernel_rfl) (by kernel_rfl) (fun _ _ _ h => h) hE (wn_some g20_6_4 rfl rfl) rfl ⟨B_g1, B_g4, B_g8, trivial⟩ rfl ?_
        clear hE a; intro a hE
        refine d_skip p20_6_10 ns20_6 (by kernel_rfl) (by kernel_rfl) (fun _ _ _ h => h) hE (wn_some g20_6_4 rfl rfl) rfl ⟨B_g1, B_g4, B_g8, trivial⟩ rfl ?_
        clear hE a; intro a hE
        refine d_skip p20_6_11 ns20_6 (by kernel_rfl) (by kernel_rfl) (fun _ _ _ h => h) hE (wn_some g20_6_4 rfl rfl) rfl ⟨B_g1, B_g4, B_g8, trivial⟩ rfl ?_
        clear hE a; intro a hE
        refine d_take (v := Value.bool true) p20_6_12 ns20_6 (by kernel_rfl) (by kernel_rfl) (fun _ _ _ h => h) hE wn_none rfl ⟨B_g1, B_g4, B_g8, trivial⟩ (fun W hS => (st_pick rfl rfl)) rfl ?_
        clear hE a; intro a hE
        refine d_end (by kernel_rfl) ?_
        refine x_norm ?_
        refine c_cond (t := true) hE rfl ?_
        refine c_reg R20_7_l ?_
        refine p_cons (s_still p20_7_0 hE wn_none rfl (st_assign rfl) ?_)
        clear hE a; intro a hE
        refine p_nil ?_
        refine x_norm ?_
        refine wp_ret ?_
        refine x_retB ?_
        refine x_ret ?_
        refine x_ret ?_
        refine x_retB ?_
        refine x_ret ?_
        refine ret_one (v := Value.int .i64 1) rfl hE (.tmp rfl .nil) ?_
        exact h1 (by rcases hb : okF c f l x h with _ | _; rfl; obtain ⟨_, _, _, _, _⟩ := okF_of hb; omega) _ K_0
      ·
        rcases Decidable.em (1048575 < f) with hh1 | hh1
        ·
          refine c_drawS (S := fun W => W.heap[g1]? = some (.cells (([Value.int .i64 c, Value.int .i64 f, Value.int .i64 l, Value.int .i64 x, Value.int .i64 h] ++ b16 s ++ b16 d)).toArray 24 (0, 0)) ∧ W.heap[g4]? = some (.cells #[Value.int .i64 c, Value.int .i64 f, Value.int .i64 l, Value.int .i64 x, Value.int .i64 h] 126 (0, 0)) ∧ W.heap[g8]? = some (.cells #[Value.int .i64 255, Value.int .i64 1048575, Value.int .i64 65535, Value.int .i64 255, Value.int .i64 255] 126 (0, 0)) ∧ True) rfl rfl (listed := #[false, false, false, false, false, false, false, false, false, false, false, false, false]) rfl ?_
          intro w16 hh hk
          replace B_g1 := kp_blk B_g1 hk (fun h => h)
          replace B_g4 := kp_blk B_g4 hk (fun h => h)
          replace B_g8 := kp_blk B_g8 hk (fun h => h)
          replace K_0 := K_0.then_ hk (fun _ h => h.elim)
          clear hh hk
          refine d_take (v := Value.int .i64 1) p20_6_0 ns20_6 (by kernel_rfl) (by kernel_rfl) (fun _ _ _ h => h) hE wn_none rfl ⟨B_g1, B_g4, B_g8, trivial⟩ (fun W hS => (st_move rfl)) rfl ?_
          clear hE a; intro a hE
          refine d_take (v := Value.pointer (some ⟨g4, 1, none⟩)) p20_6_1 ns20_6 (by kernel_rfl) (by kernel_rfl) (fun _ _ _ h => h) hE wn_none rfl ⟨B_g1, B_g4, B_g8, trivial⟩ (fun W hS => (st_indexAddrA (l := 5) (i := 1) Try.underlying126 tS3 rfl rfl (by decide) rfl)) rfl ?_
          clear hE a; intro a hE
          refine d_take (v := Value.int .i64 f) p20_6_2 ns20_6 (by kernel_rfl) (by kernel_rfl) (fun _ _ _ h => h) hE wn_none rfl ⟨B_g1, B_g4, B_g8, trivial⟩ (fun W hS => (st_load1 tA3 rfl ((blk_cell hS.2.1 1).trans rfl))) rfl ?_
          clear hE a; intro a hE
          refine d_take (v := Value.bool false) p20_6_3 ns20_6 (by kernel_rfl) (by kernel_rfl) (fun _ _ _ h => h) hE wn_none rfl ⟨B_g1, B_g4, B_g8, trivial⟩ (fun W hS => (st_lss (b := false) rfl rfl (decide_eq_false hl1))) rfl ?_
          clear hE a; intro a hE
          refine d_take (v := Value.bool false) p20_6_4 ns20_6 (by kernel_rfl) (by kernel_rfl) (fun _ _ _ h => h) hE wn_none rfl ⟨B_g1, B_g4, B_g8, trivial⟩ (fun W hS => (st_move rfl)) rfl ?_
          clear hE a; intro a hE
          refine d_take (v := Value.int .i64 1) p20_6_5 ns20_6 (by kernel_rfl) (by kernel_rfl) (fun _ _ _ h => h) hE (wn_some g20_6_4 rfl rfl) rfl ⟨B_g1, B_g4, B_g8, trivial⟩ (fun W hS => (st_move rfl)) rfl ?_
          clear hE a; intro a hE
          refine d_take (v := Value.pointer (some ⟨g4, 1, none⟩)) p20_6_6 ns20_6 (by kernel_rfl) (by kernel_rfl) (fun _ _ _ h => h) hE (wn_some g20_6_4 rfl rfl) rfl ⟨B_g1, B_g4, B_g8, trivial⟩ (fun W hS => (st_indexAddrA (l := 5) (i := 1) Try.underlying126 tS3 rfl rfl (by decide) rfl)) rfl ?_
          clear hE a; intro a hE
          refine d_take (v := Value.int .i64 f) p20_6_7 ns20_6 (by kernel_rfl) (by kernel_rfl) (fun _ _ _ h => h) hE (wn_some g20_6_4 rfl rfl) rfl ⟨B_g1, B_g4, B_g8, trivial⟩ (fun W hS => (st_load1 tA3 rfl ((blk_cell hS.2.1 1).trans rfl))) rfl ?_
          clear hE a; intro a hE
          refine d_take (v := Value.int .i64 1) p20_6_8 ns20_6 (by kernel_rfl) (by kernel_rfl) (fun _ _ _ h => h) hE (wn_some g20_6_4 rfl rfl) rfl ⟨B_g1, B_g4, B_g8, trivial⟩ (fun W hS => (st_move rfl)) rfl ?_
          clear hE a; intro a hE
          refine d_take (v := Value.pointer (some ⟨g8, 1, none⟩)) p20_6_9 ns20_6 (by kernel_rfl) (by kernel_rfl) (fun _ _ _ h => h) hE (wn_some g20_6_4 rfl rfl) rfl ⟨B_g1, B_g4, B_g8, trivial⟩ (fun W hS => (st_indexAddrA (l := 5) (i := 1) Try.underlying126 tS3 rfl rfl (by decide) rfl)) rfl ?_
          clear hE a; intro a hE
          refine d_take (v := Value.int .i64 1048575) p20_6_10 ns20_6 (by kernel_rfl) (by kernel_rfl) (fun _ _ _ h => h) hE (wn_some g20_6_4 rfl rfl) rfl ⟨B_g1, B_g4, B_g8, trivial⟩ (fun W hS => (st_load1 tA3 rfl ((blk_cell hS.2.2.1 1).trans rfl))) rfl ?_
          clear hE a; intro a hE
          refine d_take (v := Value.bool true) p20_6_11 ns20_6 (by kernel_rfl) (by kernel_rfl) (fun _ _ _ h => h) hE (wn_some g20_6_4 rfl rfl) rfl ⟨B_g1, B_g4, B_g8, trivial⟩ (fun W hS => (st_gtr (b := true) rfl rfl (decide_eq_true hh1))) rfl ?_
          clear hE a; intro a hE
          refine d_take (v := Value.bool true) p20_6_12 ns20_6 (by kernel_rfl) (by kernel_rfl) (fun _ _ _ h => h) hE wn_none rfl ⟨B_g1, B_g4, B_g8, trivial⟩ (fun W hS => (st_pick rfl rfl)) rfl ?_
          clear hE a; intro a hE
          refine d_end (by kernel_rfl) ?_
          refine x_norm ?_
          refine c_cond (t := true) hE rfl ?_
          refine c_reg R20_7_l ?_
          refine p_cons (s_still p20_7_0 hE wn_none rfl (st_assign rfl) ?_)
          clear hE a; intro a hE
          refine p_nil ?_
          refine x_norm ?_
          refine wp_ret ?_
          refine x_retB ?_
          refine x_ret ?_
          refine x_ret ?_
          refine x_retB ?_
          refine x_ret ?_
          refine ret_one (v := Value.int .i64 1) rfl hE (.tmp rfl .nil) ?_
          exact h1 (by rcases hb : okF c f l x h with _ | _; rfl; obtain ⟨_, _, _, _, _⟩ := okF_of hb; omega) _ K_0
        ·
          refine c_drawS (S := fun W => W.heap[g1]? = some (.cells (([Value.int .i64 c, Value.int .i64 f, Value.int .i64 l, Value.int .i64 x, Value.int .i64 h] ++ b16 s ++ b16 d)).toArray 24 (0, 0)) ∧ W.heap[g4]? = some (.cells #[Value.int .i64 c, Value.int .i64 f, Value.int .i64 l, Value.int .i64 x, Value.int .i64 h] 126 (0, 0)) ∧ W.heap[g8]? = some (.cells #[Value.int .i64 255, Value.int .i64 1048575, Value.int .i64 65535, Value.int .i64 255, Value.int .i64 255] 126 (0, 0)) ∧ True) rfl rfl (listed := #[false, false, false, false, false, false, false, false, false, false, false, false, false]) rfl ?_
          intro w17 hh hk
          replace B_g1 := kp_blk B_g1 hk (fun h => h)
          replace B_g4 := kp_blk B_g4 hk (fun h => h)
          replace B_g8 := kp_blk B_g8 hk (fun h => h)
          replace K_0 := K_0.then_ hk (fun _ h => h.elim)
          clear hh hk
          refine d_take (v := Value.int .i64 1) p20_6_0 ns20_6 (by kernel_rfl) (by kernel_rfl) (fun _ _ _ h => h) hE wn_none rfl ⟨B_g1, B_g4, B_g8, trivial⟩ (fun W hS => (st_move rfl)) rfl ?_
          clear hE a; intro a hE
          refine d_take (v := Value.pointer (some ⟨g4, 1, none⟩)) p20_6_1 ns20_6 (by kernel_rfl) (by kernel_rfl) (fun _ _ _ h => h) hE wn_none rfl ⟨B_g1, B_g4, B_g8, trivial⟩ (fun W hS => (st_indexAddrA (l := 5) (i := 1) Try.underlying126 tS3 rfl rfl (by decide) rfl)) rfl ?_
          clear hE a; intro a hE
          refine d_take (v := Value.int .i64 f) p20_6_2 ns20_6 (by kernel_rfl) (by kernel_rfl) (fun _ _ _ h => h) hE wn_none rfl ⟨B_g1, B_g4, B_g8, trivial⟩ (fun W hS => (st_load1 tA3 rfl ((blk_cell hS.2.1 1).trans rfl))) rfl ?_
          clear hE a; intro a hE
          refine d_take (v := Value.bool false) p20_6_3 ns20_6 (by kernel_rfl) (by kernel_rfl) (fun _ _ _ h => h) hE wn_none rfl ⟨B_g1, B_g4, B_g8, trivial⟩ (fun W hS => (st_lss (b := false) rfl rfl (decide_eq_false hl1))) rfl ?_
          clear hE a; intro a hE
          refine d_take (v := Value.bool false) p20_6_4 ns20_6 (by kernel_rfl) (by kernel_rfl) (fun _ _ _ h => h) hE wn_none rfl ⟨B_g1, B_g4, B_g8, trivial⟩ (fun W hS => (st_move rfl)) rfl ?_
          clear hE a; intro a hE
          refine d_take (v := Value.int .i64 1) p20_6_5 ns20_6 (by kernel_rfl) (by kernel_rfl) (fun _ _ _ h => h) hE (wn_some g20_6_4 rfl rfl) rfl ⟨B_g1, B_g4, B_g8, trivial⟩ (fun W hS => (st_move rfl)) rfl ?_
          clear hE a; intro a hE
          refine d_take (v := Value.pointer (some ⟨g4, 1, none⟩)) p20_6_6 ns20_6 (by kernel_rfl) (by kernel_rfl) (fun _ _ _ h => h) hE (wn_some g20_6_4 rfl rfl) rfl ⟨B_g1, B_g4, B_g8, trivial⟩ (fun W hS => (st_indexAddrA (l := 5) (i := 1) Try.underlying126 tS3 rfl rfl (by decide) rfl)) rfl ?_
          clear hE a; intro a hE
          refine d_take (v := Value.int .i64 f) p20_6_7 ns20_6 (by kernel_rfl) (by kernel_rfl) (fun _ _ _ h => h) hE (wn_some g20_6_4 rfl rfl) rfl ⟨B_g1, B_g4, B_g8, trivial⟩ (fun W hS => (st_load1 tA3 rfl ((blk_cell hS.2.1 1).trans rfl))) rfl ?_
          clear hE a; intro a hE
          refine d_take (v := Value.int .i64 1) p20_6_8 ns20_6 (by kernel_rfl) (by kernel_rfl) (fun _ _ _ h => h) hE (wn_some g20_6_4 rfl rfl) rfl ⟨B_g1, B_g4, B_g8, trivial⟩ (fun W hS => (st_move rfl)) rfl ?_
          clear hE a; intro a hE
          refine d_take (v := Value.pointer (some ⟨g8, 1, none⟩)) p20_6_9 ns20_6 (by kernel_rfl) (by kernel_rfl) (fun _ _ _ h => h) hE (wn_some g20_6_4 rfl rfl) rfl ⟨B_g1, B_g4, B_g8, trivial⟩ (fun W hS => (st_indexAddrA (l := 5) (i := 1) Try.underlying126 tS3 rfl rfl (by decide) rfl)) rfl ?_
          clear hE a; intro a hE
          refine d_take (v := Value.int .i64 1048575) p20_6_10 ns20_6 (by kernel_rfl) (by kernel_rfl) (fun _ _ _ h => h) hE (wn_some g20_6_4 rfl rfl) rfl ⟨B_g1, B_g4, B_g8, trivial⟩ (fun W hS => (st_load1 tA3 rfl ((blk_cell hS.2.2.1 1).trans rfl))) rfl ?_
          clear hE a; intro a hE
          refine d_take (v := Value.bool false) p20_6_11 ns20_6 (by kernel_rfl) (by kernel_rfl) (fun _ _ _ h => h) hE (wn_some g20_6_4 rfl rfl) rfl ⟨B_g1, B_g4, B_g8, trivial⟩ (fun W hS => (st_gtr (b := false) rfl rfl (decide_eq_false hh1))) rfl ?_
          clear hE a; intro a hE
          refine d_take (v := Value.bool false) p20_6_12 ns20_6 (by kernel_rfl) (by kernel_rfl) (fun _ _ _ h => h) hE wn_none rfl ⟨B_g1, B_g4, B_g8, trivial⟩ (fun W hS => (st_pick rfl rfl)) rfl ?_
          clear hE a; intro a hE
          refine d_end (by kernel_rfl) ?_
          refine x_norm ?_
          refine c_cond (t := false) hE rfl ?_
          refine wp_skip ?_
          refine x_normB ?_
          refine x_norm ?_
          refine c_regL R20_5_l ?_
          refine p_cons (s_still p20_5_0 hE wn_none rfl (st_move rfl) ?_)
          clear hE a; intro a hE
          refine p_cons (s_still p20_5_1 hE wn_none rfl (st_add (z := 2) rfl rfl (by decide)) ?_)
          clear hE a; intro a hE
          refine p_cons (s_still p20_5_2 hE wn_none rfl (st_assign rfl) ?_)
          clear hE a; intro a hE
          refine p_nil ?_
          refine x_norm ?_
          refine (Eq.mpr (rounds_succ (n := 3)) ?_)
          refine wp_seq ?_
          refine c_reg R20_4_l ?_
          refine p_cons (s_still p20_4_0 hE wn_none rfl (st_move rfl) ?_)
          clear hE a; intro a hE
          refine p_cons (s_still p20_4_1 hE wn_none rfl (st_lss (b := true) rfl rfl (by decide)) ?_)
          clear hE a; intro a hE
          refine p_nil ?_
          refine x_norm ?_
          refine c_cond (t := true) hE rfl ?_
          refine wp_skip ?_
          refine x_norm ?_
          refine wp_seq ?_
          refine wp_block ?_
          rcases Decidable.em (l < 0) with hl2 | hl2
          ·
            refine c_drawS (S := fun W => W.heap[g1]? = some (.cells (([Value.int .i64 c, Value.int .i64 f, Value.int .i64 l, Value.int .i64 x, Value.int .i64 h] ++ b16 s ++ b16 d)).toArray 24 (0, 0)) ∧ W.heap[g4]? = some (.cells #[Value.int .i64 c, Value.int .i64 f, Value.int .i64 l, Value.int .i64 x, Value.int .i64 h] 126 (0, 0)) ∧ W.heap[g8]? = some (.cells #[Value.int .i64 255, Value.int .i64 1048575, Value.int .i64 65535, Value.int .i64 255, Value.int .i64 255] 126 (0, 0)) ∧ True) rfl rfl (listed := #[false, false, false, false, false, false, false, false, false, false, false, false, false]) rfl ?_
            intro w18 hh hk
            replace B_g1 := kp_blk B_g1 hk (fun h => h)
            replace B_g4 := kp_blk B_g4 hk (fun h => h)
            replace B_g8 := kp_blk B_g8 hk (fun h => h)
            replace K_0 := K_0.then_ hk (fun _ h => h.elim)
            clear hh hk
            refine d_take (v := Value.int .i64 2) p20_6_0 ns20_6 (by kernel_rfl) (by kernel_rfl) (fun _ _ _ h => h) hE wn_none rfl ⟨B_g1, B_g4, B_g8, trivial⟩ (fun W hS => (st_move rfl)) rfl ?_
            clear hE a; intro a hE
            refine d_take (v := Value.pointer (some ⟨g4, 2, none⟩)) p20_6_1 ns20_6 (by kernel_rfl) (by kernel_rfl) (fun _ _ _ h => h) hE wn_none rfl ⟨B_g1, B_g4, B_g8, trivial⟩ (fun W hS => (st_indexAddrA (l := 5) (i := 2) Try.underlying126 tS3 rfl rfl (by decide) rfl)) rfl ?_
            clear hE a; intro a hE
            refine d_take (v := Value.int .i64 l) p20_6_2 ns20_6 (by kernel_rfl) (by kernel_rfl) (fun _ _ _ h => h) hE wn_none rfl ⟨B_g1, B_g4, B_g8, trivial⟩ (fun W hS => (st_load1 tA3 rfl ((blk_cell hS.2.1 2).trans rfl))) rfl ?_
            clear hE a; intro a hE
            refine d_take (v := Value.bool true) p20_6_3 ns20_6 (by kernel_rfl) (by kernel_rfl) (fun _ _ _ h => h) hE wn_none rfl ⟨B_g1, B_g4, B_g8, trivial⟩ (fun W hS => (st_lss (b := true) rfl rfl (decide_eq_true hl2))) rfl ?_
            clear hE a; intro a hE
            refine d_take (v := Value.bool true) p20_6_4 ns20_6 (by kernel_rfl) (by kernel_rfl) (fun _ _ _ h => h) hE wn_none rfl ⟨B_g1, B_g4, B_g8, trivial⟩ (fun W hS => (st_move rfl)) rfl ?_
            clear hE a; intro a hE
            refine d_skip p20_6_5 ns20_6 (by kernel_rfl) (by kernel_rfl) (fun _ _ _ h => h) hE (wn_some g20_6_4 rfl rfl) rfl ⟨B_g1, B_g4, B_g8, trivial⟩ rfl ?_
            clear hE a; intro a hE
            refine d_skip p20_6_6 ns20_6 (by kernel_rfl) (by kernel_rfl) (fun _ _ _ h => h) hE (wn_some g20_6_4 rfl rfl) rfl ⟨B_g1, B_g4, B_g8, trivial⟩ rfl ?_
            clear hE a; intro a hE
            refine d_skip p20_6_7 ns20_6 (by kernel_rfl) (by kernel_rfl) (fun _ _ _ h => h) hE (wn_some g20_6_4 rfl rfl) rfl ⟨B_g1, B_g4, B_g8, trivial⟩ rfl ?_
            clear hE a; intro a hE
            refine d_skip p20_6_8 ns20_6 (by kernel_rfl) (by kernel_rfl) (fun _ _ _ h => h) hE (wn_some g20_6_4 rfl rfl) rfl ⟨B_g1, B_g4, B_g8, trivial⟩ rfl ?_
            clear hE a; intro a hE
            refine d_skip p20_6_9 ns20_6 (by kernel_rfl) (by kernel_rfl) (fun _ _ _ h => h) hE (wn_some g20_6_4 rfl rfl) rfl ⟨B_g1, B_g4, B_g8, trivial⟩ rfl ?_
            clear hE a; intro a hE
            refine d_skip p20_6_10 ns20_6 (by kernel_rfl) (by kernel_rfl) (fun _ _ _ h => h) hE (wn_some g20_6_4 rfl rfl) rfl ⟨B_g1, B_g4, B_g8, trivial⟩ rfl ?_
            clear hE a; intro a hE
            refine d_skip p20_6_11 ns20_6 (by kernel_rfl) (by kernel_rfl) (fun _ _ _ h => h) hE (wn_some g20_6_4 rfl rfl) rfl ⟨B_g1, B_g4, B_g8, trivial⟩ rfl ?_
            clear hE a; intro a hE
            refine d_take (v := Value.bool true) p20_6_12 ns20_6 (by kernel_rfl) (by kernel_rfl) (fun _ _ _ h => h) hE wn_none rfl ⟨B_g1, B_g4, B_g8, trivial⟩ (fun W hS => (st_pick rfl rfl)) rfl ?_
            clear hE a; intro a hE
            refine d_end (by kernel_rfl) ?_
            refine x_norm ?_
            refine c_cond (t := true) hE rfl ?_
            refine c_reg R20_7_l ?_
            refine p_cons (s_still p20_7_0 hE wn_none rfl (st_assign rfl) ?_)
            clear hE a; intro a hE
            refine p_nil ?_
            refine x_norm ?_
            refine wp_ret ?_
            refine x_retB ?_
            refine x_ret ?_
            refine x_ret ?_
            refine x_retB ?_
            refine x_ret ?_
            refine ret_one (v := Value.int .i64 1) rfl hE (.tmp rfl .nil) ?_
            exact h1 (by rcases hb : okF c f l x h with _ | _; rfl; obtain ⟨_, _, _, _, _⟩ := okF_of hb; omega) _ K_0
          ·
            rcases Decidable.em (65535 < l) with hh2 | hh2
            ·
              refine c_drawS (S := fun W => W.heap[g1]? = some (.cells (([Value.int .i64 c, Value.int .i64 f, Value.int .i64 l, Value.int .i64 x, Value.int .i64 h] ++ b16 s ++ b16 d)).toArray 24 (0, 0)) ∧ W.heap[g4]? = some (.cells #[Value.int .i64 c, Value.int .i64 f, Value.int .i64 l, Value.int .i64 x, Value.int .i64 h] 126 (0, 0)) ∧ W.heap[g8]? = some (.cells #[Value.int .i64 255, Value.int .i64 1048575, Value.int .i64 65535, Value.int .i64 255, Value.int .i64 255] 126 (0, 0)) ∧ True) rfl rfl (listed := #[false, false, false, false, false, false, false, false, false, false, false, false, false]) rfl ?_
              intro w19 hh hk
              replace B_g1 := kp_blk B_g1 hk (fun h => h)
              replace B_g4 := kp_blk B_g4 hk (fun h => h)
              replace B_g8 := kp_blk B_g8 hk (fun h => h)
              replace K_0 := K_0.then_ hk (fun _ h => h.elim)
              clear hh hk
              refine d_take (v := Value.int .i64 2) p20_6_0 ns20_6 (by kernel_rfl) (by kernel_rfl) (fun _ _ _ h => h) hE wn_none rfl ⟨B_g1, B_g4, B_g8, trivial⟩ (fun W hS => (st_move rfl)) rfl ?_
              clear hE a; intro a hE
              refine d_take (v := Value.pointer (some ⟨g4, 2, none⟩)) p20_6_1 ns20_6 (by kernel_rfl) (by kernel_rfl) (fun _ _ _ h => h) hE wn_none rfl ⟨B_g1, B_g4, B_g8, trivial⟩ (fun W hS => (st_indexAddrA (l := 5) (i := 2) Try.underlying126 tS3 rfl rfl (by decide) rfl)) rfl ?_
              clear hE a; intro a hE
              refine d_take (v := Value.int .i64 l) p20_6_2 ns20_6 (by kernel_rfl) (by kernel_rfl) (fun _ _ _ h => h) hE wn_none rfl ⟨B_g1, B_g4, B_g8, trivial⟩ (fun W hS => (st_load1 tA3 rfl ((blk_cell hS.2.1 2).trans rfl))) rfl ?_
              clear hE a; intro a hE
              refine d_take (v := Value.bool false) p20_6_3 ns20_6 (by kernel_rfl) (by kernel_rfl) (fun _ _ _ h => h) hE wn_none rfl ⟨B_g1, B_g4, B_g8, trivial⟩ (fun W hS => (st_lss (b := false) rfl rfl (decide_eq_false hl2))) rfl ?_
              clear hE a; intro a hE
              refine d_take (v := Value.bool false) p20_6_4 ns20_6 (by kernel_rfl) (by kernel_rfl) (fun _ _ _ h => h) hE wn_none rfl ⟨B_g1, B_g4, B_g8, trivial⟩ (fun W hS => (st_move rfl)) rfl ?_
              clear hE a; intro a hE
              refine d_take (v := Value.int .i64 2) p20_6_5 ns20_6 (by kernel_rfl) (by kernel_rfl) (fun _ _ _ h => h) hE (wn_some g20_6_4 rfl rfl) rfl ⟨B_g1, B_g4, B_g8, trivial⟩ (fun W hS => (st_move rfl)) rfl ?_
              clear hE a; intro a hE
              refine d_take (v := Value.pointer (some ⟨g4, 2, none⟩)) p20_6_6 ns20_6 (by kernel_rfl) (by kernel_rfl) (fun _ _ _ h => h) hE (wn_some g20_6_4 rfl rfl) rfl ⟨B_g1, B_g4, B_g8, trivial⟩ (fun W hS => (st_indexAddrA (l := 5) (i := 2) Try.underlying126 tS3 rfl rfl (by decide) rfl)) rfl ?_
              clear hE a; intro a hE
              refine d_take (v := Value.int .i64 l) p20_6_7 ns20_6 (by kernel_rfl) (by kernel_rfl) (fun _ _ _ h => h) hE (wn_some g20_6_4 rfl rfl) rfl ⟨B_g1, B_g4, B_g8, trivial⟩ (fun W hS => (st_load1 tA3 rfl ((blk_cell hS.2.1 2).trans rfl))) rfl ?_
              clear hE a; intro a hE
              refine d_take (v := Value.int .i64 2) p20_6_8 ns20_6 (by kernel_rfl) (by kernel_rfl) (fun _ _ _ h => h) hE (wn_some g20_6_4 rfl rfl) rfl ⟨B_g1, B_g4, B_g8, trivial⟩ (fun W hS => (st_move rfl)) rfl ?_
              clear hE a; intro a hE
              refine d_take (v := Value.pointer (some ⟨g8, 2, none⟩)) p20_6_9 ns20_6 (by kernel_rfl) (by kernel_rfl) (fun _ _ _ h => h) hE (wn_some g20_6_4 rfl rfl) rfl ⟨B_g1, B_g4, B_g8, trivial⟩ (fun W hS => (st_indexAddrA (l := 5) (i := 2) Try.underlying126 tS3 rfl rfl (by decide) rfl)) rfl ?_
              clear hE a; intro a hE
              refine d_take (v := Value.int .i64 65535) p20_6_10 ns20_6 (by kernel_rfl) (by kernel_rfl) (fun _ _ _ h => h) hE (wn_some g20_6_4 rfl rfl) rfl ⟨B_g1, B_g4, B_g8, trivial⟩ (fun W hS => (st_load1 tA3 rfl ((blk_cell hS.2.2.1 2).trans rfl))) rfl ?_
              clear hE a; intro a hE
              refine d_take (v := Value.bool true) p20_6_11 ns20_6 (by kernel_rfl) (by kernel_rfl) (fun _ _ _ h => h) hE (wn_some g20_6_4 rfl rfl) rfl ⟨B_g1, B_g4, B_g8, trivial⟩ (fun W hS => (st_gtr (b := true) rfl rfl (decide_eq_true hh2))) rfl ?_
              clear hE a; intro a hE
              refine d_take (v := Value.bool true) p20_6_12 ns20_6 (by kernel_rfl) (by kernel_rfl) (fun _ _ _ h => h) hE wn_none rfl ⟨B_g1, B_g4, B_g8, trivial⟩ (fun W hS => (st_pick rfl rfl)) rfl ?_
              clear hE a; intro a hE
              refine d_end (by kernel_rfl) ?_
              refine x_norm ?_
              refine c_cond (t := true) hE rfl ?_
              refine c_reg R20_7_l ?_
              refine p_cons (s_still p20_7_0 hE wn_none rfl (st_assign rfl) ?_)
              clear hE a; intro a hE
              refine p_nil ?_
              refine x_norm ?_
              refine wp_ret ?_
              refine x_retB ?_
              refine x_ret ?_
              refine x_ret ?_
              refine x_retB ?_
              refine x_ret ?_
              refine ret_one (v := Value.int .i64 1) rfl hE (.tmp rfl .nil) ?_
              exact h1 (by rcases hb : okF c f l x h with _ | _; rfl; obtain ⟨_, _, _, _, _⟩ := okF_of hb; omega) _ K_0
            ·
              refine c_drawS (S := fun W => W.heap[g1]? = some (.cells (([Value.int .i64 c, Value.int .i64 f, Value.int .i64 l, Value.int .i64 x, Value.int .i64 h] ++ b16 s ++ b16 d)).toArray 24 (0, 0)) ∧ W.heap[g4]? = some (.cells #[Value.int .i64 c, Value.int .i64 f, Value.int .i64 l, Value.int .i64 x, Value.int .i64 h] 126 (0, 0)) ∧ W.heap[g8]? = some (.cells #[Value.int .i64 255, Value.int .i64 1048575, Value.int .i64 65535, Value.int .i64 255, Value.int .i64 255] 126 (0, 0)) ∧ True) rfl rfl (listed := #[false, false, false, false, false, false, false, false, false, false, false, false, false]) rfl ?_
              intro w20 hh hk
              replace B_g1 := kp_blk B_g1 hk (fun h => h)
              replace B_g4 := kp_blk B_g4 hk (fun h => h)
              replace B_g8 := kp_blk B_g8 hk (fun h => h)
              replace K_0 := K_0.then_ hk (fun _ h => h.elim)
              clear hh hk
              refine d_take (v := Value.int .i64 2) p20_6_0 ns20_6 (by kernel_rfl) (by kernel_rfl) (fun _ _ _ h => h) hE wn_none rfl ⟨B_g1, B_g4, B_g8, trivial⟩ (fun W hS => (st_move rfl)) rfl ?_
              clear hE a; intro a hE
              refine d_take (v := Value.pointer (some ⟨g4, 2, none⟩)) p20_6_1 ns20_6 (by kernel_rfl) (by kernel_rfl) (fun _ _ _ h => h) hE wn_none rfl ⟨B_g1, B_g4, B_g8, trivial⟩ (fun W hS => (st_indexAddrA (l := 5) (i := 2) Try.underlying126 tS3 rfl rfl (by decide) rfl)) rfl ?_
              clear hE a; intro a hE
              refine d_take (v := Value.int .i64 l) p20_6_2 ns20_6 (by kernel_rfl) (by kernel_rfl) (fun _ _ _ h => h) hE wn_none rfl ⟨B_g1, B_g4, B_g8, trivial⟩ (fun W hS => (st_load1 tA3 rfl ((blk_cell hS.2.1 2).trans rfl))) rfl ?_
              clear hE a; intro a hE
              refine d_take (v := Value.bool false) p20_6_3 ns20_6 (by kernel_rfl) (by kernel_rfl) (fun _ _ _ h => h) hE wn_none rfl ⟨B_g1, B_g4, B_g8, trivial⟩ (fun W hS => (st_lss (b := false) rfl rfl (decide_eq_false hl2))) rfl ?_
              clear hE a; intro a hE
              refine d_take (v := Value.bool false) p20_6_4 ns20_6 (by kernel_rfl) (by kernel_rfl) (fun _ _ _ h => h) hE wn_none rfl ⟨B_g1, B_g4, B_g8, trivial⟩ (fun W hS => (st_move rfl)) rfl ?_
              clear hE a; intro a hE
              refine d_take (v := Value.int .i64 2) p20_6_5 ns20_6 (by kernel_rfl) (by kernel_rfl) (fun _ _ _ h => h) hE (wn_some g20_6_4 rfl rfl) rfl ⟨B_g1, B_g4, B_g8, trivial⟩ (fun W hS => (st_move rfl)) rfl ?_
              clear hE a; intro a hE
              refine d_take (v := Value.pointer (some ⟨g4, 2, none⟩)) p20_6_6 ns20_6 (by kernel_rfl) (by kernel_rfl) (fun _ _ _ h => h) hE (wn_some g20_6_4 rfl rfl) rfl ⟨B_g1, B_g4, B_g8, trivial⟩ (fun W hS => (st_indexAddrA (l := 5) (i := 2) Try.underlying126 tS3 rfl rfl (by decide) rfl)) rfl ?_
              clear hE a; intro a hE
              refine d_take (v := Value.int .i64 l) p20_6_7 ns20_6 (by kernel_rfl) (by kernel_rfl) (fun _ _ _ h => h) hE (wn_some g20_6_4 rfl rfl) rfl ⟨B_g1, B_g4, B_g8, trivial⟩ (fun W hS => (st_load1 tA3 rfl ((blk_cell hS.2.1 2).trans rfl))) rfl ?_
              clear hE a; intro a hE
              refine d_take (v := Value.int .i64 2) p20_6_8 ns20_6 (by kernel_rfl) (by kernel_rfl) (fun _ _ _ h => h) hE (wn_some g20_6_4 rfl rfl) rfl ⟨B_g1, B_g4, B_g8, trivial⟩ (fun W hS => (st_move rfl)) rfl ?_
              clear hE a; intro a hE
              refine d_take (v := Value.pointer (some ⟨g8, 2, none⟩)) p20_6_9 ns20_6 (by kernel_rfl) (by kernel_rfl) (fun _ _ _ h => h) hE (wn_some g20_6_4 rfl rfl) rfl ⟨B_g1, B_g4, B_g8, trivial⟩ (fun W hS => (st_indexAddrA (l := 5) (i := 2) Try.underlying126 tS3 rfl rfl (by decide) rfl)) rfl ?_
              clear hE a; intro a hE
              refine d_take (v := Value.int .i64 65535) p20_6_10 ns20_6 (by kernel_rfl) (by kernel_rfl) (fun _ _ _ h => h) hE (wn_some g20_6_4 rfl rfl) rfl ⟨B_g1, B_g4, B_g8, trivial⟩ (fun W hS => (st_load1 tA3 rfl ((blk_cell hS.2.2.1 2).trans rfl))) rfl ?_
              clear hE a; intro a hE
              refine d_take (v := Value.bool false) p20_6_11 ns20_6 (by kernel_rfl) (by kernel_rfl) (fun _ _ _ h => h) hE (wn_some g20_6_4 rfl rfl) rfl ⟨B_g1, B_g4, B_g8, trivial⟩ (fun W hS => (st_gtr (b := false) rfl rfl (decide_eq_false hh2))) rfl ?_
              clear hE a; intro a hE
              refine d_take (v := Value.bool false) p20_6_12 ns20_6 (by kernel_rfl) (by kernel_rfl) (fun _ _ _ h => h) hE wn_none rfl ⟨B_g1, B_g4, B_g8, trivial⟩ (fun W hS => (st_pick rfl rfl)) rfl ?_
              clear hE a; intro a hE
              refine d_end (by kernel_rfl) ?_
              refine x_norm ?_
              refine c_cond (t := false) hE rfl ?_
              refine wp_skip ?_
              refine x_normB ?_
              refine x_norm ?_
              refine c_regL R20_5_l ?_
              refine p_cons (s_still p20_5_0 hE wn_none rfl (st_move rfl) ?_)
              clear hE a; intro a hE
              refine p_cons (s_still p20_5_1 hE wn_none rfl (st_add (z := 3) rfl rfl (by decide)) ?_)
              clear hE a; intro a hE
              refine p_cons (s_still p20_5_2 hE wn_none rfl (st_assign rfl) ?_)
              clear hE a; intro a hE
              refine p_nil ?_
              refine x_norm ?_
              refine (Eq.mpr (rounds_succ (n := 2)) ?_)
              refine wp_seq ?_
              refine c_reg R20_4_l ?_
              refine p_cons (s_still p20_4_0 hE wn_none rfl (st_move rfl) ?_)
              clear hE a; intro a hE
              refine p_cons (s_still p20_4_1 hE wn_none rfl (st_lss (b := true) rfl rfl (by decide)) ?_)
              clear hE a; intro a hE
              refine p_nil ?_
              refine x_norm ?_
              refine c_cond (t := true) hE rfl ?_
              refine wp_skip ?_
              refine x_norm ?_
              refine wp_seq ?_
              refine wp_block ?_
              rcases Decidable.em (x < 0) with hl3 | hl3
              ·
                refine c_drawS (S := fun W => W.heap[g1]? = some (.cells (([Value.int .i64 c, Value.int .i64 f, Value.int .i64 l, Value.int .i64 x, Value.int .i64 h] ++ b16 s ++ b16 d)).toArray 24 (0, 0)) ∧ W.heap[g4]? = some (.cells #[Value.int .i64 c, Value.int .i64 f, Value.int .i64 l, Value.int .i64 x, Value.int .i64 h] 126 (0, 0)) ∧ W.heap[g8]? = some (.cells #[Value.int .i64 255, Value.int .i64 1048575, Value.int .i64 65535, Value.int .i64 255, Value.int .i64 255] 126 (0, 0)) ∧ True) rfl rfl (listed := #[false, false, false, false, false, false, false, false, false, false, false, false, false]) rfl ?_
                intro w21 hh hk
                replace B_g1 := kp_blk B_g1 hk (fun h => h)
                replace B_g4 := kp_blk B_g4 hk (fun h => h)
                replace B_g8 := kp_blk B_g8 hk (fun h => h)
                replace K_0 := K_0.then_ hk (fun _ h => h.elim)
                clear hh hk
                refine d_take (v := Value.int .i64 3) p20_6_0 ns20_6 (by kernel_rfl) (by kernel_rfl) (fun _ _ _ h => h) hE wn_none rfl ⟨B_g1, B_g4, B_g8, trivial⟩ (fun W hS => (st_move rfl)) rfl ?_
                clear hE a; intro a hE
                refine d_take (v := Value.pointer (some ⟨g4, 3, none⟩)) p20_6_1 ns20_6 (by kernel_rfl) (by kernel_rfl) (fun _ _ _ h => h) hE wn_none rfl ⟨B_g1, B_g4, B_g8, trivial⟩ (fun W hS => (st_indexAddrA (l := 5) (i := 3) Try.underlying126 tS3 rfl rfl (by decide) rfl)) rfl ?_
                clear hE a; intro a hE
                refine d_take (v := Value.int .i64 x) p20_6_2 ns20_6 (by kernel_rfl) (by kernel_rfl) (fun _ _ _ h => h) hE wn_none rfl ⟨B_g1, B_g4, B_g8, trivial⟩ (fun W hS => (st_load1 tA3 rfl ((blk_cell hS.2.1 3).trans rfl))) rfl ?_
                clear hE a; intro a hE
                refine d_take (v := Value.bool true) p20_6_3 ns20_6 (by kernel_rfl) (by kernel_rfl) (fun _ _ _ h => h) hE wn_none rfl ⟨B_g1, B_g4, B_g8, trivial⟩ (fun W hS => (st_lss (b := true) rfl rfl (decide_eq_true hl3))) rfl ?_
                clear hE a; intro a hE
                refine d_take (v := Value.bool true) p20_6_4 ns20_6 (by kernel_rfl) (by kernel_rfl) (fun _ _ _ h => h) hE wn_none rfl ⟨B_g1, B_g4, B_g8, trivial⟩ (fun W hS => (st_move rfl)) rfl ?_
                clear hE a; intro a hE
                refine d_skip p20_6_5 ns20_6 (by kernel_rfl) (by kernel_rfl) (fun _ _ _ h => h) hE (wn_some g20_6_4 rfl rfl) rfl ⟨B_g1, B_g4, B_g8, trivial⟩ rfl ?_
                clear hE a; intro a hE
                refine d_skip p20_6_6 ns20_6 (by kernel_rfl) (by kernel_rfl) (fun _ _ _ h => h) hE (wn_some g20_6_4 rfl rfl) rfl ⟨B_g1, B_g4, B_g8, trivial⟩ rfl ?_
                clear hE a; intro a hE
                refine d_skip p20_6_7 ns20_6 (by kernel_rfl) (by kernel_rfl) (fun _ _ _ h => h) hE (wn_some g20_6_4 rfl rfl) rfl ⟨B_g1, B_g4, B_g8, trivial⟩ rfl ?_
                clear hE a; intro a hE
                refine d_skip p20_6_8 ns20_6 (by kernel_rfl) (by kernel_rfl) (fun _ _ _ h => h) hE (wn_some g20_6_4 rfl rfl) rfl ⟨B_g1, B_g4, B_g8, trivial⟩ rfl ?_
                clear hE a; intro a hE
                refine d_skip p20_6_9 ns20_6 (by kernel_rfl) (by kernel_rfl) (fun _ _ _ h => h) hE (wn_some g20_6_4 rfl rfl) rfl ⟨B_g1, B_g4, B_g8, trivial⟩ rfl ?_
                clear hE a; intro a hE
                refine d_skip p20_6_10 ns20_6 (by kernel_rfl) (by kernel_rfl) (fun _ _ _ h => h) hE (wn_some g20_6_4 rfl rfl) rfl ⟨B_g1, B_g4, B_g8, trivial⟩ rfl ?_
                clear hE a; intro a hE
                refine d_skip p20_6_11 ns20_6 (by kernel_rfl) (by kernel_rfl) (fun _ _ _ h => h) hE (wn_some g20_6_4 rfl rfl) rfl ⟨B_g1, B_g4, B_g8, trivial⟩ rfl ?_
                clear hE a; intro a hE
                refine d_take (v := Value.bool true) p20_6_12 ns20_6 (by kernel_rfl) (by kernel_rfl) (fun _ _ _ h => h) hE wn_none rfl ⟨B_g1, B_g4, B_g8, trivial⟩ (fun W hS => (st_pick rfl rfl)) rfl ?_
                clear hE a; intro a hE
                refine d_end (by kernel_rfl) ?_
                refine x_norm ?_
                refine c_cond (t := true) hE rfl ?_
                refine c_reg R20_7_l ?_
                refine p_cons (s_still p20_7_0 hE wn_none rfl (st_assign rfl) ?_)
                clear hE a; intro a hE
                refine p_nil ?_
                refine x_norm ?_
                refine wp_ret ?_
                refine x_retB ?_
                refine x_ret ?_
                refine x_ret ?_
                refine x_retB ?_
                refine x_ret ?_
                refine ret_one (v := Value.int .i64 1) rfl hE (.tmp rfl .nil) ?_
                exact h1 (by rcases hb : okF c f l x h with _ | _; rfl; obtain ⟨_, _, _, _, _⟩ := okF_of hb; omega) _ K_0
              ·
                rcases Decidable.em (255 < x) with hh3 | hh3
                ·
                  refine c_drawS (S := fun W => W.heap[g1]? = some (.cells (([Value.int .i64 c, Value.int .i64 f, Value.int .i64 l, Value.int .i64 x, Value.int .i64 h] ++ b16 s ++ b16 d)).toArray 24 (0, 0)) ∧ W.heap[g4]? = some (.cells #[Value.int .i64 c, Value.int .i64 f, Value.int .i64 l, Value.int .i64 x, Value.int .i64 h] 126 (0, 0)) ∧ W.heap[g8]? = some (.cells #[Value.int .i64 255, Value.int .i64 1048575, Value.int .i64 65535, Value.int .i64 255, Value.int .i64 255] 126 (0, 0)) ∧ True) rfl rfl (listed := #[false, false, false, false, false, false, false, false, false, false, false, false, false]) rfl ?_
                  intro w22 hh hk
                  replace B_g1 := kp_blk B_g1 hk (fun h => h)
                  replace B_g4 := kp_blk B_g4 hk (fun h => h)
                  replace B_g8 := kp_blk B_g8 hk (fun h => h)
                  replace K_0 := K_0.then_ hk (fun _ h => h.elim)
                  clear hh hk
                  refine d_take (v := Value.int .i64 3) p20_6_0 ns20_6 (by kernel_rfl) (by kernel_rfl) (fun _ _ _ h => h) hE wn_none rfl ⟨B_g1, B_g4, B_g8, trivial⟩ (fun W hS => (st_move rfl)) rfl ?_
                  clear hE a; intro a hE
                  refine d_take (v := Value.pointer (some ⟨g4, 3, none⟩)) p20_6_1 ns20_6 (by kernel_rfl) (by kernel_rfl) (fun _ _ _ h => h) hE wn_none rfl ⟨B_g1, B_g4, B_g8, trivial⟩ (fun W hS => (st_indexAddrA (l := 5) (i := 3) Try.underlying126 tS3 rfl rfl (by decide) rfl)) rfl ?_
                  clear hE a; intro a hE
                  refine d_take (v := Value.int .i64 x) p20_6_2 ns20_6 (by kernel_rfl) (by kernel_rfl) (fun _ _ _ h => h) hE wn_none rfl ⟨B_g1, B_g4, B_g8, trivial⟩ (fun W hS => (st_load1 tA3 rfl ((blk_cell hS.2.1 3).trans rfl))) rfl ?_
                  clear hE a; intro a hE
                  refine d_take (v := Value.bool false) p20_6_3 ns20_6 (by kernel_rfl) (by kernel_rfl) (fun _ _ _ h => h) hE wn_none rfl ⟨B_g1, B_g4, B_g8, trivial⟩ (fun W hS => (st_lss (b := false) rfl rfl (decide_eq_false hl3))) rfl ?_
                  clear hE a; intro a hE
                  refine d_take (v := Value.bool false) p20_6_4 ns20_6 (by kernel_rfl) (by kernel_rfl) (fun _ _ _ h => h) hE wn_none rfl ⟨B_g1, B_g4, B_g8, trivial⟩ (fun W hS => (st_move rfl)) rfl ?_
                  clear hE a; intro a hE
                  refine d_take (v := Value.int .i64 3) p20_6_5 ns20_6 (by kernel_rfl) (by kernel_rfl) (fun _ _ _ h => h) hE (wn_some g20_6_4 rfl rfl) rfl ⟨B_g1, B_g4, B_g8, trivial⟩ (fun W hS => (st_move rfl)) rfl ?_
                  clear hE a; intro a hE
                  refine d_take (v := Value.pointer (some ⟨g4, 3, none⟩)) p20_6_6 ns20_6 (by kernel_rfl) (by kernel_rfl) (fun _ _ _ h => h) hE (wn_some g20_6_4 rfl rfl) rfl ⟨B_g1, B_g4, B_g8, trivial⟩ (fun W hS => (st_indexAddrA (l := 5) (i := 3) Try.underlying126 tS3 rfl rfl (by decide) rfl)) rfl ?_
                  clear hE a; intro a hE
                  refine d_take (v := Value.int .i64 x) p20_6_7 ns20_6 (by kernel_rfl) (by kernel_rfl) (fun _ _ _ h => h) hE (wn_some g20_6_4 rfl rfl) rfl ⟨B_g1, B_g4, B_g8, trivial⟩ (fun W hS => (st_load1 tA3 rfl ((blk_cell hS.2.1 3).trans rfl))) rfl ?_
                  clear hE a; intro a hE
                  refine d_take (v := Value.int .i64 3) p20_6_8 ns20_6 (by kernel_rfl) (by kernel_rfl) (fun _ _ _ h => h) hE (wn_some g20_6_4 rfl rfl) rfl ⟨B_g1, B_g4, B_g8, trivial⟩ (fun W hS => (st_move rfl)) rfl ?_
                  clear hE a; intro a hE
                  refine d_take (v := Value.pointer (some ⟨g8, 3, none⟩)) p20_6_9 ns20_6 (by kernel_rfl) (by kernel_rfl) (fun _ _ _ h => h) hE (wn_some g20_6_4 rfl rfl) rfl ⟨B_g1, B_g4, B_g8, trivial⟩ (fun W hS => (st_indexAddrA (l := 5) (i := 3) Try.underlying126 tS3 rfl rfl (by decide) rfl)) rfl ?_
                  clear hE a; intro a hE
                  refine d_take (v := Value.int .i64 255) p20_6_10 ns20_6 (by kernel_rfl) (by kernel_rfl) (fun _ _ _ h => h) hE (wn_some g20_6_4 rfl rfl) rfl ⟨B_g1, B_g4, B_g8, trivial⟩ (fun W hS => (st_load1 tA3 rfl ((blk_cell hS.2.2.1 3).trans rfl))) rfl ?_
                  clear hE a; intro a hE
                  refine d_take (v := Value.bool true) p20_6_11 ns20_6 (by kernel_rfl) (by kernel_rfl) (fun _ _ _ h => h) hE (wn_some g20_6_4 rfl rfl) rfl ⟨B_g1, B_g4, B_g8, trivial⟩ (fun W hS => (st_gtr (b := true) rfl rfl (decide_eq_true hh3))) rfl ?_
                  clear hE a; intro a hE
                  refine d_take (v := Value.bool true) p20_6_12 ns20_6 (by kernel_rfl) (by kernel_rfl) (fun _ _ _ h => h) hE wn_none rfl ⟨B_g1, B_g4, B_g8, trivial⟩ (fun W hS => (st_pick rfl rfl)) rfl ?_
                  clear hE a; intro a hE
                  refine d_end (by kernel_rfl) ?_
                  refine x_norm ?_
                  refine c_cond (t := true) hE rfl ?_
                  refine c_reg R20_7_l ?_
                  refine p_cons (s_still p20_7_0 hE wn_none rfl (st_assign rfl) ?_)
                  clear hE a; intro a hE
                  refine p_nil ?_
                  refine x_norm ?_
                  refine wp_ret ?_
                  refine x_retB ?_
                  refine x_ret ?_
                  refine x_ret ?_
                  refine x_retB ?_
                  refine x_ret ?_
                  refine ret_one (v := Value.int .i64 1) rfl hE (.tmp rfl .nil) ?_
                  exact h1 (by rcases hb : okF c f l x h with _ | _; rfl; obtain ⟨_, _, _, _, _⟩ := okF_of hb; omega) _ K_0
                ·
                  refine c_drawS (S := fun W => W.heap[g1]? = some (.cells (([Value.int .i64 c, Value.int .i64 f, Value.int .i64 l, Value.int .i64 x, Value.int .i64 h] ++ b16 s ++ b16 d)).toArray 24 (0, 0)) ∧ W.heap[g4]? = some (.cells #[Value.int .i64 c, Value.int .i64 f, Value.int .i64 l, Value.int .i64 x, Value.int .i64 h] 126 (0, 0)) ∧ W.heap[g8]? = some (.cells #[Value.int .i64 255, Value.int .i64 1048575, Value.int .i64 65535, Value.int .i64 255, Value.int .i64 255] 126 (0, 0)) ∧ True) rfl rfl (listed := #[false, false, false, false, false, false, false, false, false, false, false, false, false]) rfl ?_
                  intro w23 hh hk
                  replace B_g1 := kp_blk B_g1 hk (fun h => h)
                  replace B_g4 := kp_blk B_g4 hk (fun h => h)
                  replace B_g8 := kp_blk B_g8 hk (fun h => h)
                  replace K_0 := K_0.then_ hk (fun _ h => h.elim)
                  clear hh hk
                  refine d_take (v := Value.int .i64 3) p20_6_0 ns20_6 (by kernel_rfl) (by kernel_rfl) (fun _ _ _ h => h) hE wn_none rfl ⟨B_g1, B_g4, B_g8, trivial⟩ (fun W hS => (st_move rfl)) rfl ?_
                  clear hE a; intro a hE
                  refine d_take (v := Value.pointer (some ⟨g4, 3, none⟩)) p20_6_1 ns20_6 (by kernel_rfl) (by kernel_rfl) (fun _ _ _ h => h) hE wn_none rfl ⟨B_g1, B_g4, B_g8, trivial⟩ (fun W hS => (st_indexAddrA (l := 5) (i := 3) Try.underlying126 tS3 rfl rfl (by decide) rfl)) rfl ?_
                  clear hE a; intro a hE
                  refine d_take (v := Value.int .i64 x) p20_6_2 ns20_6 (by kernel_rfl) (by kernel_rfl) (fun _ _ _ h => h) hE wn_none rfl ⟨B_g1, B_g4, B_g8, trivial⟩ (fun W hS => (st_load1 tA3 rfl ((blk_cell hS.2.1 3).trans rfl))) rfl ?_
                  clear hE a; intro a hE
                  refine d_take (v := Value.bool false) p20_6_3 ns20_6 (by kernel_rfl) (by kernel_rfl) (fun _ _ _ h => h) hE wn_none rfl ⟨B_g1, B_g4, B_g8, trivial⟩ (fun W hS => (st_lss (b := false) rfl rfl (decide_eq_false hl3))) rfl ?_
                  clear hE a; intro a hE
                  refine d_take (v := Value.bool false) p20_6_4 ns20_6 (by kernel_rfl) (by kernel_rfl) (fun _ _ _ h => h) hE wn_none rfl ⟨B_g1, B_g4, B_g8, trivial⟩ (fun W hS => (st_move rfl)) rfl ?_
                  clear hE a; intro a hE
                  refine d_take (v := Value.int .i64 3) p20_6_5 ns20_6 (by kernel_rfl) (by kernel_rfl) (fun _ _ _ h => h) hE (wn_some g20_6_4 rfl rfl) rfl ⟨B_g1, B_g4, B_g8, trivial⟩ (fun W hS => (st_move rfl)) rfl ?_
                  clear hE a; intro a hE
                  refine d_take (v := Value.pointer (some ⟨g4, 3, none⟩)) p20_6_6 ns20_6 (by kernel_rfl) (by kernel_rfl) (fun _ _ _ h => h) hE (wn_some g20_6_4 rfl rfl) rfl ⟨B_g1, B_g4, B_g8, trivial⟩ (fun W hS => (st_indexAddrA (l := 5) (i := 3) Try.underlying126 tS3 rfl rfl (by decide) rfl)) rfl ?_
                  clear hE a; intro a hE
                  refine d_take (v := Value.int .i64 x) p20_6_7 ns20_6 (by kernel_rfl) (by kernel_rfl) (fun _ _ _ h => h) hE (wn_some g20_6_4 rfl rfl) rfl ⟨B_g1, B_g4, B_g8, trivial⟩ (fun W hS => (st_load1 tA3 rfl ((blk_cell hS.2.1 3).trans rfl))) rfl ?_
                  clear hE a; intro a hE
                  refine d_take (v := Value.int .i64 3) p20_6_8 ns20_6 (by kernel_rfl) (by kernel_rfl) (fun _ _ _ h => h) hE (wn_some g20_6_4 rfl rfl) rfl ⟨B_g1, B_g4, B_g8, trivial⟩ (fun W hS => (st_move rfl)) rfl ?_
                  clear hE a; intro a hE
                  refine d_take (v := Value.pointer (some ⟨g8, 3, none⟩)) p20_6_9 ns20_6 (by kernel_rfl) (by kernel_rfl) (fun _ _ _ h => h) hE (wn_some g20_6_4 rfl rfl) rfl ⟨B_g1, B_g4, B_g8, trivial⟩ (fun W hS => (st_indexAddrA (l := 5) (i := 3) Try.underlying126 tS3 rfl rfl (by decide) rfl)) rfl ?_
                  clear hE a; intro a hE
                  refine d_take (v := Value.int .i64 255) p20_6_10 ns20_6 (by kernel_rfl) (by kernel_rfl) (fun _ _ _ h => h) hE (wn_some g20_6_4 rfl rfl) rfl ⟨B_g1, B_g4, B_g8, trivial⟩ (fun W hS => (st_load1 tA3 rfl ((blk_cell hS.2.2.1 3).trans rfl))) rfl ?_
                  clear hE a; intro a hE
                  refine d_take (v := Value.bool false) p20_6_11 ns20_6 (by kernel_rfl) (by kernel_rfl) (fun _ _ _ h => h) hE (wn_some g20_6_4 rfl rfl) rfl ⟨B_g1, B_g4, B_g8, trivial⟩ (fun W hS => (st_gtr (b := false) rfl rfl (decide_eq_false hh3))) rfl ?_
                  clear hE a; intro a hE
                  refine d_take (v := Value.bool false) p20_6_12 ns20_6 (by kernel_rfl) (by kernel_rfl) (fun _ _ _ h => h) hE wn_none rfl ⟨B_g1, B_g4, B_g8, trivial⟩ (fun W hS => (st_pick rfl rfl)) rfl ?_
                  clear hE a; intro a hE
                  refine d_end (by kernel_rfl) ?_
                  refine x_norm ?_
                  refine c_cond (t := false) hE rfl ?_
                  refine wp_skip ?_
                  refine x_normB ?_
                  refine x_norm ?_
                  refine c_regL R20_5_l ?_
                  refine p_cons (s_still p20_5_0 hE wn_none rfl (st_move rfl) ?_)
                  clear hE a; intro a hE
                  refine p_cons (s_still p20_5_1 hE wn_none rfl (st_add (z := 4) rfl rfl (by decide)) ?_)
                  clear hE a; intro a hE
                  refine p_cons (s_still p20_5_2 hE wn_none rfl (st_assign rfl) ?_)
                  clear hE a; intro a hE
                  refine p_nil ?_
                  refine x_norm ?_
                  refine (Eq.mpr (rounds_succ (n := 1)) ?_)
                  refine wp_seq ?_
                  refine c_reg R20_4_l ?_
                  refine p_cons (s_still p20_4_0 hE wn_none rfl (st_move rfl) ?_)
                  clear hE a; intro a hE
                  refine p_cons (s_still p20_4_1 hE wn_none rfl (st_lss (b := true) rfl rfl (by decide)) ?_)
                  clear hE a; intro a hE
                  refine p_nil ?_
                  refine x_norm ?_
                  refine c_cond (t := true) hE rfl ?_
                  refine wp_skip ?_
                  refine x_norm ?_
                  refine wp_seq ?_
                  refine wp_block ?_
                  rcases Decidable.em (h < 0) with hl4 | hl4
                  ·
                    refine c_drawS (S := fun W => W.heap[g1]? = some (.cells (([Value.int .i64 c, Value.int .i64 f, Value.int .i64 l, Value.int .i64 x, Value.int .i64 h] ++ b16 s ++ b16 d)).toArray 24 (0, 0)) ∧ W.heap[g4]? = some (.cells #[Value.int .i64 c, Value.int .i64 f, Value.int .i64 l, Value.int .i64 x, Value.int .i64 h] 126 (0, 0)) ∧ W.heap[g8]? = some (.cells #[Value.int .i64 255, Value.int .i64 1048575, Value.int .i64 65535, Value.int .i64 255, Value.int .i64 255] 126 (0, 0)) ∧ True) rfl rfl (listed := #[false, false, false, false, false, false, false, false, false, false, false, false, false]) rfl ?_
                    intro w24 hh hk
                    replace B_g1 := kp_blk B_g1 hk (fun h => h)
                    replace B_g4 := kp_blk B_g4 hk (fun h => h)
                    replace B_g8 := kp_blk B_g8 hk (fun h => h)
                    replace K_0 := K_0.then_ hk (fun _ h => h.elim)
                    clear hh hk
                    refine d_take (v := Value.int .i64 4) p20_6_0 ns20_6 (by kernel_rfl) (by kernel_rfl) (fun _ _ _ h => h) hE wn_none rfl ⟨B_g1, B_g4, B_g8, trivial⟩ (fun W hS => (st_move rfl)) rfl ?_
                    clear hE a; intro a hE
                    refine d_take (v := Value.pointer (some ⟨g4, 4, none⟩)) p20_6_1 ns20_6 (by kernel_rfl) (by kernel_rfl) (fun _ _ _ h => h) hE wn_none rfl ⟨B_g1, B_g4, B_g8, trivial⟩ (fun W hS => (st_indexAddrA (l := 5) (i := 4) Try.underlying126 tS3 rfl rfl (by decide) rfl)) rfl ?_
                    clear hE a; intro a hE
                    refine d_take (v := Value.int .i64 h) p20_6_2 ns20_6 (by kernel_rfl) (by kernel_rfl) (fun _ _ _ h => h) hE wn_none rfl ⟨B_g1, B_g4, B_g8, trivial⟩ (fun W hS => (st_load1 tA3 rfl ((blk_cell hS.2.1 4).trans rfl))) rfl ?_
                    clear hE a; intro a hE
                    refine d_take (v := Value.bool true) p20_6_3 ns20_6 (by kernel_rfl) (by kernel_rfl) (fun _ _ _ h => h) hE wn_none rfl ⟨B_g1, B_g4, B_g8, trivial⟩ (fun W hS => (st_lss (b := true) rfl rfl (decide_eq_true hl4))) rfl ?_
                    clear hE a; intro a hE
                    refine d_take (v := Value.bool true) p20_6_4 ns20_6 (by kernel_rfl) (by kernel_rfl) (fun _ _ _ h => h) hE wn_none rfl ⟨B_g1, B_g4, B_g8, trivial⟩ (fun W hS => (st_move rfl)) rfl ?_
                    clear hE a; intro a hE
                    refine d_skip p20_6_5 ns20_6 (by kernel_rfl) (by kernel_rfl) (fun _ _ _ h => h) hE (wn_some g20_6_4 rfl rfl) rfl ⟨B_g1, B_g4, B_g8, trivial⟩ rfl ?_
                    clear hE a; intro a hE
                    refine d_skip p20_6_6 ns20_6 (by kernel_rfl) (by kernel_rfl) (fun _ _ _ h => h) hE (wn_some g20_6_4 rfl rfl) rfl ⟨B_g1, B_g4, B_g8, trivial⟩ rfl ?_
                    clear hE a; intro a hE
                    refine d_skip p20_6_7 ns20_6 (by kernel_rfl) (by kernel_rfl) (fun _ _ _ h => h) hE (wn_some g20_6_4 rfl rfl) rfl ⟨B_g1, B_g4, B_g8, trivial⟩ rfl ?_
                    clear hE a; intro a hE
                    refine d_skip p20_6_8 ns20_6 (by kernel_rfl) (by kernel_rfl) (fun _ _ _ h => h) hE (wn_some g20_6_4 rfl rfl) rfl ⟨B_g1, B_g4, B_g8, trivial⟩ rfl ?_
                    clear hE a; intro a hE
                    refine d_skip p20_6_9 ns20_6 (by kernel_rfl) (by kernel_rfl) (fun _ _ _ h => h) hE (wn_some g20_6_4 rfl rfl) rfl ⟨B_g1, B_g4, B_g8, trivial⟩ rfl ?_
                    clear hE a; intro a hE
                    refine d_skip p20_6_10 ns20_6 (by kernel_rfl) (by kernel_rfl) (fun _ _ _ h => h) hE (wn_some g20_6_4 rfl rfl) rfl ⟨B_g1, B_g4, B_g8, trivial⟩ rfl ?_
                    clear hE a; intro a hE
                    refine d_skip p20_6_11 ns20_6 (by kernel_rfl) (by kernel_rfl) (fun _ _ _ h => h) hE (wn_some g20_6_4 rfl rfl) rfl ⟨B_g1, B_g4, B_g8, trivial⟩ rfl ?_
                    clear hE a; intro a hE
                    refine d_take (v := Value.bool true) p20_6_12 ns20_6 (by kernel_rfl) (by kernel_rfl) (fun _ _ _ h => h) hE wn_none rfl ⟨B_g1, B_g4, B_g8, trivial⟩ (fun W hS => (st_pick rfl rfl)) rfl ?_
                    clear hE a; intro a hE
                    refine d_end (by kernel_rfl) ?_
                    refine x_norm ?_
                    refine c_cond (t := true) hE rfl ?_
                    refine c_reg R20_7_l ?_
                    refine p_cons (s_still p20_7_0 hE wn_none rfl (st_assign rfl) ?_)
                    clear hE a; intro a hE
                    refine p_nil ?_
                    refine x_norm ?_
                    refine wp_ret ?_
                    refine x_retB ?_
                    refine x_ret ?_
                    refine x_ret ?_
                    refine x_retB ?_
                    refine x_ret ?_
                    refine ret_one (v := Value.int .i64 1) rfl hE (.tmp rfl .nil) ?_
                    exact h1 (by rcases hb : okF c f l x h with _ | _; rfl; obtain ⟨_, _, _, _, _⟩ := okF_of hb; omega) _ K_0
                  ·
                    rcases Decidable.em (255 < h) with hh4 | hh4
                    ·
                      refine c_drawS (S := fun W => W.heap[g1]? = some (.cells (([Value.int .i64 c, Value.int .i64 f, Value.int .i64 l, Value.int .i64 x, Value.int .i64 h] ++ b16 s ++ b16 d)).toArray 24 (0, 0)) ∧ W.heap[g4]? = some (.cells #[Value.int .i64 c, Value.int .i64 f, Value.int .i64 l, Value.int .i64 x, Value.int .i64 h] 126 (0, 0)) ∧ W.heap[g8]? = some (.cells #[Value.int .i64 255, Value.int .i64 1048575, Value.int .i64 65535, Value.int .i64 255, Value.int .i64 255] 126 (0, 0)) ∧ True) rfl rfl (listed := #[false, false, false, false, false, false, false, false, false, false, false, false, false]) rfl ?_
                      intro w25 hh hk
                      replace B_g1 := kp_blk B_g1 hk (fun h => h)
                      replace B_g4 := kp_blk B_g4 hk (fun h => h)
                      replace B_g8 := kp_blk B_g8 hk (fun h => h)
                      replace K_0 := K_0.then_ hk (fun _ h => h.elim)
                      clear hh hk
                      refine d_take (v := Value.int .i64 4) p20_6_0 ns20_6 (by kernel_rfl) (by kernel_rfl) (fun _ _ _ h => h) hE wn_none rfl ⟨B_g1, B_g4, B_g8, trivial⟩ (fun W hS => (st_move rfl)) rfl ?_
                      clear hE a; intro a hE
                      refine d_take (v := Value.pointer (some ⟨g4, 4, none⟩)) p20_6_1 ns20_6 (by kernel_rfl) (by kernel_rfl) (fun _ _ _ h => h) hE wn_none rfl ⟨B_g1, B_g4, B_g8, trivial⟩ (fun W hS => (st_indexAddrA (l := 5) (i := 4) Try.underlying126 tS3 rfl rfl (by decide) rfl)) rfl ?_
                      clear hE a; intro a hE
                      refine d_take (v := Value.int .i64 h) p20_6_2 ns20_6 (by kernel_rfl) (by kernel_rfl) (fun _ _ _ h => h) hE wn_none rfl ⟨B_g1, B_g4, B_g8, trivial⟩ (fun W hS => (st_load1 tA3 rfl ((blk_cell hS.2.1 4).trans rfl))) rfl ?_
                      clear hE a; intro a hE
                      refine d_take (v := Value.bool false) p20_6_3 ns20_6 (by kernel_rfl) (by kernel_rfl) (fun _ _ _ h => h) hE wn_none rfl ⟨B_g1, B_g4, B_g8, trivial⟩ (fun W hS => (st_lss (b := false) rfl rfl (decide_eq_false hl4))) rfl ?_
                      clear hE a; intro a hE
                      refine d_take (v := Value.bool false) p20_6_4 ns20_6 (by kernel_rfl) (by kernel_rfl) (fun _ _ _ h => h) hE wn_none rfl ⟨B_g1, B_g4, B_g8, trivial⟩ (fun W hS => (st_move rfl)) rfl ?_
                      clear hE a; intro a hE
                      refine d_take (v := Value.int .i64 4) p20_6_5 ns20_6 (by kernel_rfl) (by kernel_rfl) (fun _ _ _ h => h) hE (wn_some g20_6_4 rfl rfl) rfl ⟨B_g1, B_g4, B_g8, trivial⟩ (fun W hS => (st_move rfl)) rfl ?_
                      clear hE a; intro a hE
                      refine d_take (v := Value.pointer (some ⟨g4, 4, none⟩)) p20_6_6 ns20_6 (by kernel_rfl) (by kernel_rfl) (fun _ _ _ h => h) hE (wn_some g20_6_4 rfl rfl) rfl ⟨B_g1, B_g4, B_g8, trivial⟩ (fun W hS => (st_indexAddrA (l := 5) (i := 4) Try.underlying126 tS3 rfl rfl (by decide) rfl)) rfl ?_
                      clear hE a; intro a hE
                      refine d_take (v := Value.int .i64 h) p20_6_7 ns20_6 (by kernel_rfl) (by kernel_rfl) (fun _ _ _ h => h) hE (wn_some g20_6_4 rfl rfl) rfl ⟨B_g1, B_g4, B_g8, trivial⟩ (fun W hS => (st_load1 tA3 rfl ((blk_cell hS.2.1 4).trans rfl))) rfl ?_
                      clear hE a; intro a hE
                      refine d_take (v := Value.int .i64 4) p20_6_8 ns20_6 (by kernel_rfl) (by kernel_rfl) (fun _ _ _ h => h) hE (wn_some g20_6_4 rfl rfl) rfl ⟨B_g1, B_g4, B_g8, trivial⟩ (fun W hS => (st_move rfl)) rfl ?_
                      clear hE a; intro a hE
                      refine d_take (v := Value.pointer (some ⟨g8, 4, none⟩)) p20_6_9 ns20_6 (by kernel_rfl) (by kernel_rfl) (fun _ _ _ h => h) hE (wn_some g20_6_4 rfl rfl) rfl ⟨B_g1, B_g4, B_g8, trivial⟩ (fun W hS => (st_indexAddrA (l := 5) (i := 4) Try.underlying126 tS3 rfl rfl (by decide) rfl)) rfl ?_
                      clear hE a; intro a hE
                      refine d_take (v := Value.int .i64 255) p20_6_10 ns20_6 (by kernel_rfl) (by kernel_rfl) (fun _ _ _ h => h) hE (wn_some g20_6_4 rfl rfl) rfl ⟨B_g1, B_g4, B_g8, trivial⟩ (fun W hS => (st_load1 tA3 rfl ((blk_cell hS.2.2.1 4).trans rfl))) rfl ?_
                      clear hE a; intro a hE
                      refine d_take (v := Value.bool true) p20_6_11 ns20_6 (by kernel_rfl) (by kernel_rfl) (fun _ _ _ h => h) hE (wn_some g20_6_4 rfl rfl) rfl ⟨B_g1, B_g4, B_g8, trivial⟩ (fun W hS => (st_gtr (b := true) rfl rfl (decide_eq_true hh4))) rfl ?_
                      clear hE a; intro a hE
                      refine d_take (v := Value.bool true) p20_6_12 ns20_6 (by kernel_rfl) (by kernel_rfl) (fun _ _ _ h => h) hE wn_none rfl ⟨B_g1, B_g4, B_g8, trivial⟩ (fun W hS => (st_pick rfl rfl)) rfl ?_
                      clear hE a; intro a hE
                      refine d_end (by kernel_rfl) ?_
                      refine x_norm ?_
                      refine c_cond (t := true) hE rfl ?_
                      refine c_reg R20_7_l ?_
                      refine p_cons (s_still p20_7_0 hE wn_none rfl (st_assign rfl) ?_)
                      clear hE a; intro a hE
                      refine p_nil ?_
                      refine x_norm ?_
                      refine wp_ret ?_
                      refine x_retB ?_
                      refine x_ret ?_
                      refine x_ret ?_
                      refine x_retB ?_
                      refine x_ret ?_
                      refine ret_one (v := Value.int .i64 1) rfl hE (.tmp rfl .nil) ?_
                      exact h1 (by rcases hb : okF c f l x h with _ | _; rfl; obtain ⟨_, _, _, _, _⟩ := okF_of hb; omega) _ K_0
                    ·
                      refine c_drawS (S := fun W => W.heap[g1]? = some (.cells (([Value.int .i64 c, Value.int .i64 f, Value.int .i64 l, Value.int .i64 x, Value.int .i64 h] ++ b16 s ++ b16 d)).toArray 24 (0, 0)) ∧ W.heap[g4]? = some (.cells #[Value.int .i64 c, Value.int .i64 f, Value.int .i64 l, Value.int .i64 x, Value.int .i64 h] 126 (0, 0)) ∧ W.heap[g8]? = some (.cells #[Value.int .i64 255, Value.int .i64 1048575, Value.int .i64 65535, Value.int .i64 255, Value.int .i64 255] 126 (0, 0)) ∧ True) rfl rfl (listed := #[false, false, false, false, false, false, false, false, false, false, false, false, false]) rfl ?_
                      intro w26 hh hk
                      replace B_g1 := kp_blk B_g1 hk (fun h => h)
                      replace B_g4 := kp_blk B_g4 hk (fun h => h)
                      replace B_g8 := kp_blk B_g8 hk (fun h => h)
                      replace K_0 := K_0.then_ hk (fun _ h => h.elim)
                      clear hh hk
                      refine d_take (v := Value.int .i64 4) p20_6_0 ns20_6 (by kernel_rfl) (by kernel_rfl) (fun _ _ _ h => h) hE wn_none rfl ⟨B_g1, B_g4, B_g8, trivial⟩ (fun W hS => (st_move rfl)) rfl ?_
                      clear hE a; intro a hE
                      refine d_take (v := Value.pointer (some ⟨g4, 4, none⟩)) p20_6_1 ns20_6 (by kernel_rfl) (by kernel_rfl) (fun _ _ _ h => h) hE wn_none rfl ⟨B_g1, B_g4, B_g8, trivial⟩ (fun W hS => (st_indexAddrA (l := 5) (i := 4) Try.underlying126 tS3 rfl rfl (by decide) rfl)) rfl ?_
                      clear hE a; intro a hE
                      refine d_take (v := Value.int .i64 h) p20_6_2 ns20_6 (by kernel_rfl) (by kernel_rfl) (fun _ _ _ h => h) hE wn_none rfl ⟨B_g1, B_g4, B_g8, trivial⟩ (fun W hS => (st_load1 tA3 rfl ((blk_cell hS.2.1 4).trans rfl))) rfl ?_
                      clear hE a; intro a hE
                      refine d_take (v := Value.bool false) p20_6_3 ns20_6 (by kernel_rfl) (by kernel_rfl) (fun _ _ _ h => h) hE wn_none rfl ⟨B_g1, B_g4, B_g8, trivial⟩ (fun W hS => (st_lss (b := false) rfl rfl (decide_eq_false hl4))) rfl ?_
                      clear hE a; intro a hE
                      refine d_take (v := Value.bool false) p20_6_4 ns20_6 (by kernel_rfl) (by kernel_rfl) (fun _ _ _ h => h) hE wn_none rfl ⟨B_g1, B_g4, B_g8, trivial⟩ (fun W hS => (st_move rfl)) rfl ?_
                      clear hE a; intro a hE
                      refine d_take (v := Value.int .i64 4) p20_6_5 ns20_6 (by kernel_rfl) (by kernel_rfl) (fun _ _ _ h => h) hE (wn_some g20_6_4 rfl rfl) rfl ⟨B_g1, B_g4, B_g8, trivial⟩ (fun W hS => (st_move rfl)) rfl ?_
                      clear hE a; intro a hE
                      refine d_take (v := Value.pointer (some ⟨g4, 4, none⟩)) p20_6_6 ns20_6 (by kernel_rfl) (by kernel_rfl) (fun _ _ _ h => h) hE (wn_some g20_6_4 rfl rfl) rfl ⟨B_g1, B_g4, B_g8, trivial⟩ (fun W hS => (st_indexAddrA (l := 5) (i := 4) Try.underlying126 tS3 rfl rfl (by decide) rfl)) rfl ?_
                      clear hE a; intro a hE
                      refine d_take (v := Value.int .i64 h) p20_6_7 ns20_6 (by kernel_rfl) (by kernel_rfl) (fun _ _ _ h => h) hE (wn_some g20_6_4 rfl rfl) rfl ⟨B_g1, B_g4, B_g8, trivial⟩ (fun W hS => (st_load1 tA3 rfl ((blk_cell hS.2.1 4).trans rfl))) rfl ?_
                      clear hE a; intro a hE
                      refine d_take (v := Value.int .i64 4) p20_6_8 ns20_6 (by kernel_rfl) (by kernel_rfl) (fun _ _ _ h => h) hE (wn_some g20_6_4 rfl rfl) rfl ⟨B_g1, B_g4, B_g8, trivial⟩ (fun W hS => (st_move rfl)) rfl ?_
                      clear hE a; intro a hE
                      refine d_take (v := Value.pointer (some ⟨g8, 4, none⟩)) p20_6_9 ns20_6 (by kernel_rfl) (by kernel_rfl) (fun _ _ _ h => h) hE (wn_some g20_6_4 rfl rfl) rfl ⟨B_g1, B_g4, B_g8, trivial⟩ (fun W hS => (st_indexAddrA (l := 5) (i := 4) Try.underlying126 tS3 rfl rfl (by decide) rfl)) rfl ?_
                      clear hE a; intro a hE
                      refine d_take (v := Value.int .i64 255) p20_6_10 ns20_6 (by kernel_rfl) (by kernel_rfl) (fun _ _ _ h => h) hE (wn_some g20_6_4 rfl rfl) rfl ⟨B_g1, B_g4, B_g8, trivial⟩ (fun W hS => (st_load1 tA3 rfl ((blk_cell hS.2.2.1 4).trans rfl))) rfl ?_
                      clear hE a; intro a hE
                      refine d_take (v := Value.bool false) p20_6_11 ns20_6 (by kernel_rfl) (by kernel_rfl) (fun _ _ _ h => h) hE (wn_some g20_6_4 rfl rfl) rfl ⟨B_g1, B_g4, B_g8, trivial⟩ (fun W hS => (st_gtr (b := false) rfl rfl (decide_eq_false hh4))) rfl ?_
                      clear hE a; intro a hE
                      refine d_take (v := Value.bool false) p20_6_12 ns20_6 (by kernel_rfl) (by kernel_rfl) (fun _ _ _ h => h) hE wn_none rfl ⟨B_g1, B_g4, B_g8, trivial⟩ (fun W hS => (st_pick rfl rfl)) rfl ?_
                      clear hE a; intro a hE
                      refine d_end (by kernel_rfl) ?_
                      refine x_norm ?_
                      refine c_cond (t := false) hE rfl ?_
                      refine wp_skip ?_
                      refine x_normB ?_
                      refine x_norm ?_
                      refine c_regL R20_5_l ?_
                      refine p_cons (s_still p20_5_0 hE wn_none rfl (st_move rfl) ?_)
                      clear hE a; intro a hE
                      refine p_cons (s_still p20_5_1 hE wn_none rfl (st_add (z := 5) rfl rfl (by decide)) ?_)
                      clear hE a; intro a hE
                      refine p_cons (s_still p20_5_2 hE wn_none rfl (st_assign rfl) ?_)
                      clear hE a; intro a hE
                      refine p_nil ?_
                      refine x_norm ?_
                      refine (Eq.mpr (rounds_succ (n := 0)) ?_)
                      refine wp_seq ?_
                      refine c_reg R20_4_l ?_
                      refine p_cons (s_still p20_4_0 hE wn_none rfl (st_move rfl) ?_)
                      clear hE a; intro a hE
                      refine p_cons (s_still p20_4_1 hE wn_none rfl (st_lss (b := false) rfl rfl (by decide)) ?_)
                      clear hE a; intro a hE
                      refine p_nil ?_
                      refine x_norm ?_
                      refine c_cond (t := false) hE rfl ?_
                      refine wp_exit ?_
                      refine x_exit ?_
                      refine x_exit ?_
                      refine x_in ?_
                      refine x_norm ?_
                      refine c_reg R20_8_l ?_
                      refine p_cons (s_still p20_8_0 hE wn_none rfl (st_assign rfl) ?_)
                      clear hE a; intro a hE
                      refine p_nil ?_
                      refine x_norm ?_
                      refine wp_ret ?_
                      refine ret_one (v := Value.int .i64 0) rfl hE (.tmp rfl .nil) ?_
                      exact h0 (okF_mk (by omega) (by omega) (by omega) (by omega) (by omega)) _ K_0
theorem rchk_any (c f l x h : Int) (s d : Nat → Int) (e0 : Int) (he : (if okF c f l x h then 0 else 1) = e0) (w : World) : Calls Try.prog 20 #[Value.agg (([Value.int .i64 c, Value.int .i64 f, Value.int .i64 l, Value.int .i64 x, Value.int .i64 h] ++ b16 s ++ b16 d)).toArray] w fun e w' => e = .returned (.int .i64 e0) ∧ Kp w w' (fun _ => False) :=
  rchk_R c f l x h s d w (fun h w' hk => ⟨by rw [← he, h]; rfl, hk⟩) (fun h w' hk => ⟨by rw [← he, h]; rfl, hk⟩)
theorem renc_eq (c f l x h : Int) (s d : Nat → Int) (hc : 0 ≤ c ∧ c ≤ 255) (hf : 0 ≤ f ∧ f ≤ 1048575) (hl : 0 ≤ l ∧ l ≤ 65535) (hx : 0 ≤ x ∧ x ≤ 255) (hh : 0 ≤ h ∧ h ≤ 255) : encF c f l x h s d = ((([96 + c / 16, c % 16 * 16 + f / 65536, f / 256 % 256, f % 256] ++ [l / 256, l % 256, x, h]) ++ l16 s) ++ l16 d) := by
  unfold encF
  rw [put4, put2, put1]
  have e1 : ((1536 + c) * 1048576 + f) / 16777216 % 256 = 96 + c / 16 := by omega
  have e2 : ((1536 + c) * 1048576 + f) / 65536 % 256 = c % 16 * 16 + f / 65536 := by omega
  have e3 : ((1536 + c) * 1048576 + f) / 256 % 256 = f / 256 % 256 := by omega
  have e4 : ((1536 + c) * 1048576 + f) % 256 = f % 256 := by omega
  have e5 : l / 256 % 256 = l / 256 := by omega
  have e6 : x % 256 = x := by omega
  have e7 : h % 256 = h := by omega
  rw [e1, e2, e3, e4, e5, e6, e7]
  rfl
theorem R22_0_l : List.range (regOf Try.f22 0).size = [0, 1] := by kernel_rfl
theorem R22_1_l : List.range (regOf Try.f22 1).size = [0, 1, 2, 3, 4, 5, 6, 7, 8, 9, 10, 11, 12, 13, 14, 15, 16, 17, 18, 19, 20, 21, 22, 23, 24] := by kernel_rfl
theorem R22_2_l : List.range (regOf Try.f22 2).size = [0, 1, 2, 3, 4, 5, 6, 7, 8, 9, 10, 11, 12, 13, 14, 15, 16, 17] := by kernel_rfl
theorem R22_3_l : List.range (regOf Try.f22 3).size = [0, 1, 2, 3, 4] := by kernel_rfl
theorem R22_4_l : List.range (regOf Try.f22 4).size = [0, 1, 2, 3, 4] := by kernel_rfl
theorem body22 : Try.f22.body = some (.seq (.region 0 (regOf Try.f22 0) false) (.seq (.region 1 (regOf Try.f22 1) false) (.seq (.region 2 (regOf Try.f22 2) false) (.seq (.region 3 (regOf Try.f22 3) false) (.seq (.region 4 (regOf Try.f22 4) false) (.ret)))))) := by kernel_rfl
theorem p22_0_0 : pj (regOf Try.f22 0) 0 = some (some 1, Op.box 24 (Operand.tmp 0), 0, none) := by kernel_rfl
theorem p22_0_1 : pj (regOf Try.f22 0) 1 = some (some 2, Op.assign (Operand.const (Value.slice none 0 0)), 36, none) := by kernel_rfl
theorem p22_1_0 : pj (regOf Try.f22 1) 0 = some (some 4, Op.fieldAddr 24 (Operand.tmp 1) 0, 0, none) := by kernel_rfl
theorem p22_1_1 : pj (regOf Try.f22 1) 1 = some (some 5, Op.load 3 (Operand.tmp 4), 3, none) := by kernel_rfl
theorem p22_1_2 : pj (regOf Try.f22 1) 2 = some (some 6, Op.binOp BinOp.quo 3 (Operand.tmp 5) (Operand.const (Value.int IntKind.i64 16)) 3, 3, none) := by kernel_rfl
theorem p22_1_3 : pj (regOf Try.f22 1) 3 = some (some 7, Op.binOp BinOp.add 3 (Operand.const (Value.int IntKind.i64 96)) (Operand.tmp 6) 3, 3, none) := by kernel_rfl
theorem p22_1_4 : pj (regOf Try.f22 1) 4 = some (some 8, Op.convert 3 5 (Operand.tmp 7), 5, none) := by kernel_rfl
theorem p22_1_5 : pj (regOf Try.f22 1) 5 = some (some 9, Op.fieldAddr 24 (Operand.tmp 1) 0, 0, none) := by kernel_rfl
theorem p22_1_6 : pj (regOf Try.f22 1) 6 = some (some 10, Op.load 3 (Operand.tmp 9), 3, none) := by kernel_rfl
theorem p22_1_7 : pj (regOf Try.f22 1) 7 = some (some 11, Op.binOp BinOp.rem 3 (Operand.tmp 10) (Operand.const (Value.int IntKind.i64 16)) 3, 3, none) := by kernel_rfl
theorem p22_1_8 : pj (regOf Try.f22 1) 8 = some (some 12, Op.binOp BinOp.mul 3 (Operand.tmp 11) (Operand.const (Value.int IntKind.i64 16)) 3, 3, none) := by kernel_rfl
theorem p22_1_9 : pj (regOf Try.f22 1) 9 = some (some 13, Op.fieldAddr 24 (Operand.tmp 1) 1, 0, none) := by kernel_rfl
theorem p22_1_10 : pj (regOf Try.f22 1) 10 = some (some 14, Op.load 3 (Operand.tmp 13), 3, none) := by kernel_rfl
theorem p22_1_11 : pj (regOf Try.f22 1) 11 = some (some 15, Op.binOp BinOp.quo 3 (Operand.tmp 14) (Operand.const (Value.int IntKind.i64 65536)) 3, 3, none) := by kernel_rfl
theorem p22_1_12 : pj (regOf Try.f22 1) 12 = some (some 16, Op.binOp BinOp.add 3 (Operand.tmp 12) (Operand.tmp 15) 3, 3, none) := by kernel_rfl
theorem p22_1_13 : pj (regOf Try.f22 1) 13 = some (some 17, Op.convert 3 5 (Operand.tmp 16), 5, none) := by kernel_rfl
theorem p22_1_14 : pj (regOf Try.f22 1) 14 = some (some 18, Op.fieldAddr 24 (Operand.tmp 1) 1, 0, none) := by kernel_rfl
theorem p22_1_15 : pj (regOf Try.f22 1) 15 = some (some 19, Op.load 3 (Operand.tmp 18), 3, none) := by kernel_rfl
theorem p22_1_16 : pj (regOf Try.f22 1) 16 = some (some 20, Op.binOp BinOp.quo 3 (Operand.tmp 19) (Operand.const (Value.int IntKind.i64 256)) 3, 3, none) := by kernel_rfl
theorem p22_1_17 : pj (regOf Try.f22 1) 17 = some (some 21, Op.binOp BinOp.rem 3 (Operand.tmp 20) (Operand.const (Value.int IntKind.i64 256)) 3, 3, none) := by kernel_rfl
theorem p22_1_18 : pj (regOf Try.f22 1) 18 = some (some 22, Op.convert 3 5 (Operand.tmp 21), 5, none) := by kernel_rfl
theorem p22_1_19 : pj (regOf Try.f22 1) 19 = some (some 23, Op.fieldAddr 24 (Operand.tmp 1) 1, 0, none) := by kernel_rfl
theorem p22_1_20 : pj (regOf Try.f22 1) 20 = some (some 24, Op.load 3 (Operand.tmp 23), 3, none) := by kernel_rfl
theorem p22_1_21 : pj (regOf Try.f22 1) 21 = some (some 25, Op.binOp BinOp.rem 3 (Operand.tmp 24) (Operand.const (Value.int IntKind.i64 256)) 3, 3, none) := by kernel_rfl
theorem p22_1_22 : pj (regOf Try.f22 1) 22 = some (some 26, Op.convert 3 5 (Operand.tmp 25), 5, none) := by kernel_rfl
theorem p22_1_23 : pj (regOf Try.f22 1) 23 = some (some 27, Op.buildSlice 36 4 #[(0, Operand.tmp 8), (1, Operand.tmp 17), (2, Operand.tmp 22), (3, Operand.tmp 26)], 36, none) := by kernel_rfl
theorem p22_1_24 : pj (regOf Try.f22 1) 24 = some (some 3, Op.assign (Operand.tmp 27), 36, none) := by kernel_rfl
theorem p22_2_0 : pj (regOf Try.f22 2) 0 = some (some 28, Op.move (Operand.tmp 3), 36, none) := by kernel_rfl
theorem p22_2_1 : pj (regOf Try.f22 2) 1 = some (some 29, Op.fieldAddr 24 (Operand.tmp 1) 2, 0, none) := by kernel_rfl
theorem p22_2_2 : pj (regOf Try.f22 2) 2 = some (some 30, Op.load 3 (Operand.tmp 29), 3, none) := by kernel_rfl
theorem p22_2_3 : pj (regOf Try.f22 2) 3 = some (some 31, Op.binOp BinOp.quo 3 (Operand.tmp 30) (Operand.const (Value.int IntKind.i64 256)) 3, 3, none) := by kernel_rfl
theorem p22_2_4 : pj (regOf Try.f22 2) 4 = some (some 32, Op.convert 3 5 (Operand.tmp 31), 5, none) := by kernel_rfl
theorem p22_2_5 : pj (regOf Try.f22 2) 5 = some (some 33, Op.fieldAddr 24 (Operand.tmp 1) 2, 0, none) := by kernel_rfl
theorem p22_2_6 : pj (regOf Try.f22 2) 6 = some (some 34, Op.load 3 (Operand.tmp 33), 3, none) := by kernel_rfl
theorem p22_2_7 : pj (regOf Try.f22 2) 7 = some (some 35, Op.binOp BinOp.rem 3 (Operand.tmp 34) (Operand.const (Value.int IntKind.i64 256)) 3, 3, none) := by kernel_rfl
theorem p22_2_8 : pj (regOf Try.f22 2) 8 = some (some 36, Op.convert 3 5 (Operand.tmp 35), 5, none) := by kernel_rfl
theorem p22_2_9 : pj (regOf Try.f22 2) 9 = some (some 37, Op.fieldAddr 24 (Operand.tmp 1) 3, 0, none) := by kernel_rfl
theorem p22_2_10 : pj (regOf Try.f22 2) 10 = some (some 38, Op.load 3 (Operand.tmp 37), 3, none) := by kernel_rfl
theorem p22_2_11 : pj (regOf Try.f22 2) 11 = some (some 39, Op.convert 3 5 (Operand.tmp 38), 5, none) := by kernel_rfl
theorem p22_2_12 : pj (regOf Try.f22 2) 12 = some (some 40, Op.fieldAddr 24 (Operand.tmp 1) 4, 0, none) := by kernel_rfl
theorem p22_2_13 : pj (regOf Try.f22 2) 13 = some (some 41, Op.load 3 (Operand.tmp 40), 3, none) := by kernel_rfl
theorem p22_2_14 : pj (regOf Try.f22 2) 14 = some (some 42, Op.convert 3 5 (Operand.tmp 41), 5, none) := by kernel_rfl
theorem p22_2_15 : pj (regOf Try.f22 2) 15 = some (some 43, Op.buildSlice 36 4 #[(0, Operand.tmp 32), (1, Operand.tmp 36), (2, Operand.tmp 39), (3, Operand.tmp 42)], 36, none) := by kernel_rfl
theorem p22_2_16 : pj (regOf Try.f22 2) 16 = some (some 44, Op.call { callee := Callee.builtin Builtin.append, args := #[Operand.tmp 28, Operand.tmp 43], argTypes := #[36, 36] }, 36, none) := by kernel_rfl
theorem eD5 : elemD Try.prog 5 = some (1, 1, 1) := by kernel_rfl
theorem p22_2_17 : pj (regOf Try.f22 2) 17 = some (some 3, Op.assign (Operand.tmp 44), 36, none) := by kernel_rfl
theorem p22_3_0 : pj (regOf Try.f22 3) 0 = some (some 45, Op.move (Operand.tmp 3), 36, none) := by kernel_rfl
theorem p22_3_1 : pj (regOf Try.f22 3) 1 = some (some 46, Op.fieldAddr 24 (Operand.tmp 1) 5, 0, none) := by kernel_rfl
theorem tS22 : (Try.prog.info? 22).map (·.size) = some 16 := by kernel_rfl
theorem p22_3_2 : pj (regOf Try.f22 3) 2 = some (some 47, Op.slice 22 (Operand.tmp 46) none none none, 36, none) := by kernel_rfl
theorem tS5 : (Try.prog.info? 5).map (·.size) = some 1 := by kernel_rfl
theorem p22_3_3 : pj (regOf Try.f22 3) 3 = some (some 48, Op.call { callee := Callee.builtin Builtin.append, args := #[Operand.tmp 45, Operand.tmp 47], argTypes := #[36, 36] }, 36, none) := by kernel_rfl
theorem p22_3_4 : pj (regOf Try.f22 3) 4 = some (some 3, Op.assign (Operand.tmp 48), 36, none) := by kernel_rfl
theorem p22_4_0 : pj (regOf Try.f22 4) 0 = some (some 49, Op.move (Operand.tmp 3), 36, none) := by kernel_rfl
theorem p22_4_1 : pj (regOf Try.f22 4) 1 = some (some 50, Op.fieldAddr 24 (Operand.tmp 1) 6, 0, none) := by kernel_rfl
theorem p22_4_2 : pj (regOf Try.f22 4) 2 = some (some 51, Op.slice 22 (Operand.tmp 50) none none none, 36, none) := by kernel_rfl
theorem p22_4_3 : pj (regOf Try.f22 4) 3 = some (some 52, Op.call { callee := Callee.builtin Builtin.append, args := #[Operand.tmp 49, Operand.tmp 51], argTypes := #[36, 36] }, 36, none) := by kernel_rfl
theorem p22_4_4 : pj (regOf Try.f22 4) 4 = some (some 2, Op.assign (Operand.tmp 52), 36, none) := by kernel_rfl
set_option maxHeartbeats 4000000 in
theorem renc_ok (c f l x h : Int) (s d : Nat → Int) (hok : okF c f l x h = true) (w : World) : Calls Try.prog 22 #[Value.agg (([Value.int .i64 c, Value.int .i64 f, Value.int .i64 l, Value.int .i64 x, Value.int .i64 h] ++ b16 s ++ b16 d)).toArray] w fun e w' => ∃ A c', e = .returned (.slice A 40 c') ∧ w'.ownsRow w.heap.size 5 1 (.slice A 40 c') 40 (encs (Value.int .u8) (encF c f l x h s d)) ∧ Kp w w' (fun _ => False) := by
  have K_0 := Kp.refl w (fun _ => False)
  obtain ⟨hc, hf, hl, hx, hh⟩ := okF_of hok
  refine enter (args := [Value.agg (([Value.int .i64 c, Value.int .i64 f, Value.int .i64 l, Value.int .i64 x, Value.int .i64 h] ++ b16 s ++ b16 d)).toArray]) (n := 53) Try.func22 body22 rfl rfl rfl ?_
  intro a hE
  refine c_reg R22_0_l ?_
  refine p_cons (s_box p22_0_0 hE wn_none rfl rfl ?_)
  clear hE a; intro g1 w2 z3 B_g1 hk a hE
  replace B_g1 : w2.heap[g1]? = some (.cells (([Value.int .i64 c, Value.int .i64 f, Value.int .i64 l, Value.int .i64 x, Value.int .i64 h] ++ b16 s ++ b16 d)).toArray 24 (0, 0)) := B_g1
  have z_0_g1 := Nat.le_trans K_0.kept.1 z3
  replace K_0 := K_0.then_ hk (fun _ h => h.elim)
  clear hk
  refine p_cons (s_still p22_0_1 hE wn_none rfl (st_assign rfl) ?_)
  clear hE a; intro a hE
  refine p_nil ?_
  refine x_norm ?_
  refine c_reg R22_1_l ?_
  refine p_cons (s_still p22_1_0 hE wn_none rfl (st_fieldAddr Try.underlying24 rfl tS3 rfl rfl) ?_)
  clear hE a; intro a hE
  refine p_cons (s_still p22_1_1 hE wn_none rfl (st_load1 tA3 rfl ((blk_cell B_g1 0).trans rfl)) ?_)
  clear hE a; intro a hE
  refine p_cons (s_still p22_1_2 hE wn_none rfl (st_quo (z := c / 16) rfl rfl (by decide) (by rw [Int.tdiv_eq_ediv_of_nonneg (by omega)]; exact wr_i64 _ (by omega) (by omega))) ?_)
  clear hE a; intro a hE
  refine p_cons (s_still p22_1_3 hE wn_none rfl (st_add (z := 96 + (c / 16)) rfl rfl (wr_i64 _ (by omega) (by omega))) ?_)
  clear hE a; intro a hE
  refine p_cons (s_still p22_1_4 hE wn_none rfl (st_conv (z := 96 + (c / 16)) (by kernel_rfl) Try.underlying5 rfl (wr_u8 _ (by omega) (by omega))) ?_)
  clear hE a; intro a hE
  refine p_cons (s_still p22_1_5 hE wn_none rfl (st_fieldAddr Try.underlying24 rfl tS3 rfl rfl) ?_)
  clear hE a; intro a hE
  refine p_cons (s_still p22_1_6 hE wn_none rfl (st_load1 tA3 rfl ((blk_cell B_g1 0).trans rfl)) ?_)
  clear hE a; intro a hE
  refine p_cons (s_still p22_1_7 hE wn_none rfl (st_rem (z := c % 16) rfl rfl (by decide) (Int.tmod_eq_emod_of_nonneg (by omega))) ?_)
  clear hE a; intro a hE
  refine p_cons (s_still p22_1_8 hE wn_none rfl (st_mul (z := (c % 16) * 16) rfl rfl (wr_i64 _ (by omega) (by omega))) ?_)
  clear hE a; intro a hE
  refine p_cons (s_still p22_1_9 hE wn_none rfl (st_fieldAddr Try.underlying24 rfl tS3 rfl rfl) ?_)
  clear hE a; intro a hE
  refine p_cons (s_still p22_1_10 hE wn_none rfl (st_load1 tA3 rfl ((blk_cell B_g1 1).trans rfl)) ?_)
  clear hE a; intro a hE
  refine p_cons (s_still p22_1_11 hE wn_none rfl (st_quo (z := f / 65536) rfl rfl (by decide) (by rw [Int.tdiv_eq_ediv_of_nonneg (by omega)]; exact wr_i64 _ (by omega) (by omega))) ?_)
  clear hE a; intro a hE
  refine p_cons (s_still p22_1_12 hE wn_none rfl (st_add (z := ((c % 16) * 16) + (f / 65536)) rfl rfl (wr_i64 _ (by omega) (by omega))) ?_)
  clear hE a; intro a hE
  refine p_cons (s_still p22_1_13 hE wn_none rfl (st_conv (z := ((c % 16) * 16) + (f / 65536)) (by kernel_rfl) Try.underlying5 rfl (wr_u8 _ (by omega) (by omega))) ?_)
  clear hE a; intro a hE
  refine p_cons (s_still p22_1_14 hE wn_none rfl (st_fieldAddr Try.underlying24 rfl tS3 rfl rfl) ?_)
  clear hE a; intro a hE
  refine p_cons (s_still p22_1_15 hE wn_none rfl (st_load1 tA3 rfl ((blk_cell B_g1 1).trans rfl)) ?_)
  clear hE a; intro a hE
  refine p_cons (s_still p22_1_16 hE wn_none rfl (st_quo (z := f / 256) rfl rfl (by decide) (by rw [Int.tdiv_eq_ediv_of_nonneg (by omega)]; exact wr_i64 _ (by omega) (by omega))) ?_)
  clear hE a; intro a hE
  refine p_cons (s_still p22_1_17 hE wn_none rfl (st_rem (z := (f / 256) % 256) rfl rfl (by decide) (Int.tmod_eq_emod_of_nonneg (by omega))) ?_)
  clear hE a; intro a hE
  refine p_cons (s_still p22_1_18 hE wn_none rfl (st_conv (z := ((f / 256) % 256)) (by kernel_rfl) Try.underlying5 rfl (wr_u8 _ (by omega) (by omega))) ?_)
  clear hE a; intro a hE
  refine p_cons (s_still p22_1_19 hE wn_none rfl (st_fieldAddr Try.underlying24 rfl tS3 rfl rfl) ?_)
  clear hE a; intro a hE
  refine p_cons (s_still p22_1_20 hE wn_none rfl (st_load1 tA3 rfl ((blk_cell B_g1 1).trans rfl)) ?_)
  clear hE a; intro a hE
  refine p_cons (s_still p22_1_21 hE wn_none rfl (st_rem (z := f % 256) rfl rfl (by decide) (Int.tmod_eq_emod_of_nonneg (by omega))) ?_)
  clear hE a; intro a hE
  refine p_cons (s_still p22_1_22 hE wn_none rfl (st_conv (z := (f % 256)) (by kernel_rfl) Try.underlying5 rfl (wr_u8 _ (by omega) (by omega))) ?_)
  clear hE a; intro a hE
  refine p_cons (s_row (xs := [(0, Operand.tmp 8), (1, Operand.tmp 17), (2, Operand.tmp 22), (3, Operand.tmp 26)]) (vs := [(0, Value.int .u8 (96 + (c / 16))), (1, Value.int .u8 (((c % 16) * 16) + (f / 65536))), (2, Value.int .u8 ((f / 256) % 256)), (3, Value.int .u8 (f % 256))]) (cs := #[Value.int .u8 (96 + (c / 16)), Value.int .u8 (((c % 16) * 16) + (f / 65536)), Value.int .u8 ((f / 256) % 256), Value.int .u8 (f % 256)]) p22_1_23 hE wn_none rfl Try.underlying36 rfl (by kernel_rfl) ?_)
  clear hE a; intro g4 w5 z6 B_g4 hk a hE
  have n_g1_g4 : g1 ≠ g4 := ne_new B_g1 z6
  have z_0_g4 := Nat.le_trans K_0.kept.1 z6
  replace B_g1 := kp_blk B_g1 hk (fun h => h)
  replace K_0 := K_0.then_ hk (fun _ h => h.elim)
  clear hk
  refine p_cons (s_still p22_1_24 hE wn_none rfl (st_assign rfl) ?_)
  clear hE a; intro a hE
  refine p_nil ?_
  refine x_norm ?_
  refine c_reg R22_2_l ?_
  refine p_cons (s_still p22_2_0 hE wn_none rfl (st_move rfl) ?_)
  clear hE a; intro a hE
  refine p_cons (s_still p22_2_1 hE wn_none rfl (st_fieldAddr Try.underlying24 rfl tS3 rfl rfl) ?_)
  clear hE a; intro a hE
  refine p_cons (s_still p22_2_2 hE wn_none rfl (st_load1 tA3 rfl ((blk_cell B_g1 2).trans rfl)) ?_)
  clear hE a; intro a hE
  refine p_cons (s_still p22_2_3 hE wn_none rfl (st_quo (z := l / 256) rfl rfl (by decide) (by rw [Int.tdiv_eq_ediv_of_nonneg (by omega)]; exact wr_i64 _ (by omega) (by omega))) ?_)
  clear hE a; intro a hE
  refine p_cons (s_still p22_2_4 hE wn_none rfl (st_conv (z := (l / 256)) (by kernel_rfl) Try.underlying5 rfl (wr_u8 _ (by omega) (by omega))) ?_)
  clear hE a; intro a hE
  refine p_cons (s_still p22_2_5 hE wn_none rfl (st_fieldAddr Try.underlying24 rfl tS3 rfl rfl) ?_)
  clear hE a; intro a hE
  refine p_cons (s_still p22_2_6 hE wn_none rfl (st_load1 tA3 rfl ((blk_cell B_g1 2).trans rfl)) ?_)
  clear hE a; intro a hE
  refine p_cons (s_still p22_2_7 hE wn_none rfl (st_rem (z := l % 256) rfl rfl (by decide) (Int.tmod_eq_emod_of_nonneg (by omega))) ?_)
  clear hE a; intro a hE
  refine p_cons (s_still p22_2_8 hE wn_none rfl (st_conv (z := (l % 256)) (by kernel_rfl) Try.underlying5 rfl (wr_u8 _ (by omega) (by omega))) ?_)
  clear hE a; intro a hE
  refine p_cons (s_still p22_2_9 hE wn_none rfl (st_fieldAddr Try.underlying24 rfl tS3 rfl rfl) ?_)
  clear hE a; intro a hE
  refine p_cons (s_still p22_2_10 hE wn_none rfl (st_load1 tA3 rfl ((blk_cell B_g1 3).trans rfl)) ?_)
  clear hE a; intro a hE
  refine p_cons (s_still p22_2_11 hE wn_none rfl (st_conv (z := x) (by kernel_rfl) Try.underlying5 rfl (wr_u8 _ (by omega) (by omega))) ?_)
  clear hE a; intro a hE
  refine p_cons (s_still p22_2_12 hE wn_none rfl (st_fieldAddr Try.underlying24 rfl tS3 rfl rfl) ?_)
  clear hE a; intro a hE
  refine p_cons (s_still p22_2_13 hE wn_none rfl (st_load1 tA3 rfl ((blk_cell B_g1 4).trans rfl)) ?_)
  clear hE a; intro a hE
  refine p_cons (s_still p22_2_14 hE wn_none rfl (st_conv (z := h) (by kernel_rfl) Try.underlying5 rfl (wr_u8 _ (by omega) (by omega))) ?_)
  clear hE a; intro a hE
  refine p_cons (s_row (xs := [(0, Operand.tmp 32), (1, Operand.tmp 36), (2, Operand.tmp 39), (3, Operand.tmp 42)]) (vs := [(0, Value.int .u8 (l / 256)), (1, Value.int .u8 (l % 256)), (2, Value.int .u8 x), (3, Value.int .u8 h)]) (cs := #[Value.int .u8 (l / 256), Value.int .u8 (l % 256), Value.int .u8 x, Value.int .u8 h]) p22_2_15 hE wn_none rfl Try.underlying36 rfl (by kernel_rfl) ?_)
  clear hE a; intro g7 w8 z9 B_g7 hk a hE
  have n_g1_g7 : g1 ≠ g7 := ne_new B_g1 z9
  have n_g4_g7 : g4 ≠ g7 := ne_new B_g4 z9
  have z_0_g7 := Nat.le_trans K_0.kept.1 z9
  replace B_g1 := kp_blk B_g1 hk (fun h => h)
  replace B_g4 := kp_blk B_g4 hk (fun h => h)
  replace K_0 := K_0.then_ hk (fun _ h => h.elim)
  clear hk
  have O_q10 := own_blk (l := [96 + (c / 16), ((c % 16) * 16) + (f / 65536), ((f / 256) % 256), (f % 256)]) B_g4 (show w.heap.size ≤ g4 from z_0_g4) rfl (Nat.le_of_ble_eq_true rfl)
  have Nb_q10_g1 : ¬ OB (some ⟨g4, 0, none⟩) g1 := fun h => by have h := ob_blk.1 h; exact (Ne.symm n_g1_g4) h
  have Nb_q10_g7 : ¬ OB (some ⟨g4, 0, none⟩) g7 := fun h => by have h := ob_blk.1 h; exact n_g4_g7 h
  have Z_0_q10 : ∀ k, OB (some ⟨g4, 0, none⟩) k → (fun _ => False) k ∨ w.heap.size ≤ k := fun k h => by have h := ob_blk.1 h; subst h; exact Or.inr z_0_g4
  refine p_cons (s_appendC (xs := [96 + (c / 16), ((c % 16) * 16) + (f / 65536), ((f / 256) % 256), (f % 256)]) (ys := [(l / 256), (l % 256), x, h]) p22_2_16 hE wn_none rfl Try.underlying36 eD5 rfl O_q10 rfl (C_blk (k := .u8) (l := [(l / 256), (l % 256), x, h]) (off := 0) B_g7 ⟨rfl, Nat.le_of_ble_eq_true rfl⟩ rfl) (by omega) (by omega) K_0.kept.1 ?_)
  clear hE a; intro Aq1011 cq1012 w13 O_q10' hk hat a hE
  have Nb_q10_g1' := grow_n Nb_q10_g1 (blk_lt B_g1) hat
  have Nb_q10_g7' := grow_n Nb_q10_g7 (blk_lt B_g7) hat
  have Z_0_q10' := grow_z Z_0_q10 K_0.kept.1 hat
  replace B_g1 := kp_blk B_g1 hk Nb_q10_g1
  replace B_g7 := kp_blk B_g7 hk Nb_q10_g7
  replace K_0 := K_0.then_ hk Z_0_q10
  replace Nb_q10_g1 := Nb_q10_g1'
  replace Nb_q10_g7 := Nb_q10_g7'
  replace Z_0_q10 := Z_0_q10'
  replace O_q10 : w13.ownsRow _ 5 1 (.slice Aq1011 8 cq1012) 8 (encs (Value.int .u8) ([96 + (c / 16), ((c % 16) * 16) + (f / 65536), ((f / 256) % 256), (f % 256)] ++ [(l / 256), (l % 256), x, h])) := O_q10'
  clear O_q10' hk hat
  refine p_cons (s_still p22_2_17 hE wn_none rfl (st_assign rfl) ?_)
  clear hE a; intro a hE
  refine p_nil ?_
  refine x_norm ?_
  refine c_reg R22_3_l ?_
  refine p_cons (s_still p22_3_0 hE wn_none rfl (st_move rfl) ?_)
  clear hE a; intro a hE
  refine p_cons (s_still p22_3_1 hE wn_none rfl (st_fieldAddr Try.underlying24 rfl tS22 rfl rfl) ?_)
  clear hE a; intro a hE
  refine p_cons (s_still p22_3_2 hE wn_none rfl (st_sliceA Try.underlying22 tS5 rfl) ?_)
  clear hE a; intro a hE
  refine p_cons (s_appendC (xs := ([96 + (c / 16), ((c % 16) * 16) + (f / 65536), ((f / 256) % 256), (f % 256)] ++ [(l / 256), (l % 256), x, h])) (ys := (l16 s)) p22_3_3 hE wn_none rfl Try.underlying36 eD5 rfl O_q10 rfl (C_blk (k := .u8) (l := (l16 s)) (off := 5) B_g1 ⟨rfl, Nat.le_of_ble_eq_true rfl⟩ rfl) (by omega) (by omega) K_0.kept.1 ?_)
  clear hE a; intro Aq1014 cq1015 w16 O_q10' hk hat a hE
  have Nb_q10_g1' := grow_n Nb_q10_g1 (blk_lt B_g1) hat
  have Nb_q10_g7' := grow_n Nb_q10_g7 (blk_lt B_g7) hat
  have Z_0_q10' := grow_z Z_0_q10 K_0.kept.1 hat
  replace B_g1 := kp_blk B_g1 hk Nb_q10_g1
  replace B_g7 := kp_blk B_g7 hk Nb_q10_g7
  replace K_0 := K_0.then_ hk Z_0_q10
  replace Nb_q10_g1 := Nb_q10_g1'
  replace Nb_q10_g7 := Nb_q10_g7'
  replace Z_0_q10 := Z_0_q10'
  replace O_q10 : w16.ownsRow _ 5 1 (.slice Aq1014 24 cq1015) 24 (encs (Value.int .u8) (([96 + (c / 16), ((c % 16) * 16) + (f / 65536), ((f / 256) % 256), (f % 256)] ++ [(l / 256), (l % 256), x, h]) ++ (l16 s))) := O_q10'
  clear O_q10' hk hat
  refine p_cons (s_still p22_3_4 hE wn_none rfl (st_assign rfl) ?_)
  clear hE a; intro a hE
  refine p_nil ?_
  refine x_norm ?_
  refine c_reg R22_4_l ?_
  refine p_cons (s_still p22_4_0 hE wn_none rfl (st_move rfl) ?_)
  clear hE a; intro a hE
  refine p_cons (s_still p22_4_1 hE wn_none rfl (st_fieldAddr Try.underlying24 rfl tS22 rfl rfl) ?_)
  clear hE a; intro a hE
  refine p_cons (s_still p22_4_2 hE wn_none rfl (st_sliceA Try.underlying22 tS5 rfl) ?_)
  clear hE a; intro a hE
  refine p_cons (s_appendC (xs := (([96 + (c / 16), ((c % 16) * 16) + (f / 65536), ((f / 256) % 256), (f % 256)] ++ [(l / 256), (l % 256), x, h]) ++ (l16 s))) (ys := (l16 d)) p22_4_3 hE wn_none rfl Try.underlying36 eD5 rfl O_q10 rfl (C_blk (k := .u8) (l := (l16 d)) (off := 21) B_g1 ⟨rfl, Nat.le_of_ble_eq_true rfl⟩ rfl) (by omega) (by omega) K_0.kept.1 ?_)
  clear hE a; intro Aq1017 cq1018 w19 O_q10' hk hat a hE
  have Nb_q10_g1' := grow_n Nb_q10_g1 (blk_lt B_g1) hat
  have Nb_q10_g7' := grow_n Nb_q10_g7 (blk_lt B_g7) hat
  have Z_0_q10' := grow_z Z_0_q10 K_0.kept.1 hat
  replace B_g1 := kp_blk B_g1 hk Nb_q10_g1
  replace B_g7 := kp_blk B_g7 hk Nb_q10_g7
  replace K_0 := K_0.then_ hk Z_0_q10
  replace Nb_q10_g1 := Nb_q10_g1'
  replace Nb_q10_g7 := Nb_q10_g7'
  replace Z_0_q10 := Z_0_q10'
  replace O_q10 : w19.ownsRow _ 5 1 (.slice Aq1017 40 cq1018) 40 (encs (Value.int .u8) ((([96 + (c / 16), ((c % 16) * 16) + (f / 65536), ((f / 256) % 256), (f % 256)] ++ [(l / 256), (l % 256), x, h]) ++ (l16 s)) ++ (l16 d))) := O_q10'
  clear O_q10' hk hat
  refine p_cons (s_still p22_4_4 hE wn_none rfl (st_assign rfl) ?_)
  clear hE a; intro a hE
  refine p_nil ?_
  refine x_norm ?_
  refine wp_ret ?_
  refine ret_one (v := Value.slice Aq1017 40 cq1018) rfl hE (.tmp rfl .nil) ?_
  rw [renc_eq c f l x h s d hc hf hl hx hh]
  exact ⟨_, _, rfl, O_q10, K_0⟩
end Go.Proofs.Ytndiddfleidnaaa.Rc
