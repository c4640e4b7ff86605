/- Contracts of package header: Check, Passed, Encode. -/
import Derived.Test.YtijfocnneccccaaConcat
import Derived.Test.YtijfocnneccccaaRdv
set_option maxRecDepth 100000
set_option linter.unusedVariables false
set_option linter.unusedSimpArgs false
namespace Go.Proofs.Ytijfocnneccccaa.Hd
open Go.RowKit Go.Proofs.YtijfocnneccccaaW.PrintWords Go.Proofs.Ytijfocnneccccaa.Ds Go.Proofs.Ytijfocnneccccaa.Cc
open Go.Proofs.Ytijfocnneccccaa.Pk (Kp fitsF spanF putF digF fits_any put_ok)
def okF (c f l x h : Int) : Bool := fitsF 1 [c, x, h] && fitsF 2 [l] && decide (0 ≤ f ∧ f < 1048576)
theorem fits1 {l : List Int} (h : ∀ x ∈ l, 0 ≤ x ∧ x ≤ 255) : fitsF 1 l = true := by
 simp only [fitsF, Bool.and_eq_true, List.all_eq_true, decide_eq_true_eq]
 exact ⟨by decide, fun x hx => by have := h x hx; have : spanF 1 = 256 := rfl; omega⟩
theorem okF_of {c f l x h : Int} (H : okF c f l x h = true) : (0 ≤ c ∧ c ≤ 255) ∧ (0 ≤ f ∧ f ≤ 1048575) ∧ (0 ≤ l ∧ l ≤ 65535) ∧ (0 ≤ x ∧ x ≤ 255) ∧ (0 ≤ h ∧ h ≤ 255) := by
 simp only [okF, fitsF, Bool.and_eq_true, List.all_eq_true, decide_eq_true_eq] at H
 obtain ⟨⟨⟨_, h1⟩, ⟨_, h2⟩⟩, h3⟩ := H
 have e1 : spanF 1 = 256 := rfl
 have e2 : spanF 2 = 65536 := rfl
 have a1 := h1 c (by simp)
 have a2 := h1 x (by simp)
 have a3 := h1 h (by simp)
 have a4 := h2 l (by simp)
 omega
theorem okF_mk {c f l x h : Int} (hc : 0 ≤ c ∧ c ≤ 255) (hf : 0 ≤ f ∧ f ≤ 1048575) (hl : 0 ≤ l ∧ l ≤ 65535) (hx : 0 ≤ x ∧ x ≤ 255) (hh : 0 ≤ h ∧ h ≤ 255) : okF c f l x h = true := by
 simp only [okF, fitsF, Bool.and_eq_true, List.all_eq_true, decide_eq_true_eq]
 have e1 : spanF 1 = 256 := rfl
 have e2 : spanF 2 = 65536 := rfl
 refine ⟨⟨⟨by omega, ?_⟩, ⟨by omega, ?_⟩⟩, by omega⟩
 · intro y hy; simp at hy; omega
 · intro y hy; simp at hy; omega
theorem fits4 (c f : Int) (hc : 0 ≤ c ∧ c ≤ 255) (hf : 0 ≤ f ∧ f ≤ 1048575) : fitsF 4 [(1536 + c) * 1048576 + f] = true := by
 simp only [fitsF, Bool.and_eq_true, List.all_eq_true, decide_eq_true_eq]
 have e1 : spanF 4 = 4294967296 := rfl
 exact ⟨by omega, fun y hy => by simp at hy; omega⟩
theorem fits2 (l : Int) (hl : 0 ≤ l ∧ l ≤ 65535) : fitsF 2 [l] = true := by
 simp only [fitsF, Bool.and_eq_true, List.all_eq_true, decide_eq_true_eq]
 have e1 : spanF 2 = 65536 := rfl
 exact ⟨by omega, fun y hy => by simp at hy; omega⟩
/-- A header's bytes. -/
def encF (c f l x h : Int) (s d : Nat → Int) : List Int := putF 4 [(1536 + c) * 1048576 + f] ++ putF 2 [l] ++ putF 1 [x, h] ++ l16 s ++ l16 d
theorem tZ27 : (Try.prog.info? 27).bind (·.zero) = some (Value.agg (([Value.int .i64 0, Value.int .i64 0, Value.int .i64 0, Value.int .i64 0, Value.int .i64 0] ++ b16 (fun _ => 0) ++ b16 (fun _ => 0))).toArray) := by kernel_rfl
theorem tS3 : (Try.prog.info? 3).map (·.size) = some 1 := by kernel_rfl
theorem tA3 : (Try.prog.underlying 3).map aggD = some false := by kernel_rfl
theorem tS27 : (Try.prog.info? 27).map (·.size) = some 37 := by kernel_rfl
theorem tA27 : (Try.prog.underlying 27).map aggD = some true := by kernel_rfl
theorem R82_0_l : List.range (regOf Try.f82 0).size = [0, 1] := by kernel_rfl
theorem R82_1_l : List.range (regOf Try.f82 1).size = [0, 1, 2, 3, 4, 5, 6, 7, 8, 9, 10, 11, 12, 13, 14, 15, 16, 17, 18, 19, 20, 21, 22, 23, 24, 25] := by kernel_rfl
theorem R82_2_l : List.range (regOf Try.f82 2).size = [0] := by kernel_rfl
theorem R82_3_l : List.range (regOf Try.f82 3).size = [0] := by kernel_rfl
theorem body82 : Try.f82.body = some (.seq (.region 0 (regOf Try.f82 0) false) (.seq (.seq (.region 1 (regOf Try.f82 1) false) (.cond (Operand.tmp 28) (.seq (.region 2 (regOf Try.f82 2) false) (.ret)) (.skip))) (.seq (.region 3 (regOf Try.f82 3) false) (.ret)))) := by kernel_rfl
theorem P82_0 : (List.range (regOf Try.f82 0).size).map (pj (regOf Try.f82 0)) = [zz 1 (.box 27 (.tmp 0)) 0, zz 2 (.assign (.const (.int .i64 0))) 36] := by kernel_rfl
theorem P82_1 : (List.range (regOf Try.f82 1).size).map (pj (regOf Try.f82 1)) = [zz 3 (.fieldAddr 27 (.tmp 1) 0) 0, zz 4 (.load 3 (.tmp 3)) 3, zz 5 (.fieldAddr 27 (.tmp 1) 3) 0, zz 6 (.load 3 (.tmp 5)) 3, zz 7 (.fieldAddr 27 (.tmp 1) 4) 0, zz 8 (.load 3 (.tmp 7)) 3, zz 9 (.buildSlice 22 3 #[(0, .tmp 4), (1, .tmp 6), (2, .tmp 8)]) 22, zz 10 (.call { callee := .value (.func 47), args := #[.const (.int .i64 1), .tmp 9], argTypes := #[3, 22] }) 4, zz 11 (.unOp .not 4 (.tmp 10)) 4, zz 12 (.move (.tmp 11)) 4, some (some 13, .fieldAddr 27 (.tmp 1) 2, 0, some (9, false)), some (some 14, .load 3 (.tmp 13), 3, some (9, false)), some (some 15, .buildSlice 22 1 #[(0, .tmp 14)], 22, some (9, false)), some (some 16, .call { callee := .value (.func 47), args := #[.const (.int .i64 2), .tmp 15], argTypes := #[3, 22] }, 4, some (9, false)), some (some 17, .unOp .not 4 (.tmp 16), 4, some (9, false)), zz 18 (.pick (.tmp 12) (.const (.bool true)) (.tmp 17)) 4, zz 19 (.move (.tmp 18)) 4, some (some 20, .fieldAddr 27 (.tmp 1) 1, 0, some (16, false)), some (some 21, .load 3 (.tmp 20), 3, some (16, false)), some (some 22, .binOp .lss 3 (.tmp 21) (.const (.int .i64 0)) 3, 4, some (16, false)), zz 23 (.pick (.tmp 19) (.const (.bool true)) (.tmp 22)) 4, zz 24 (.move (.tmp 23)) 4, some (some 25, .fieldAddr 27 (.tmp 1) 1, 0, some (21, false)), some (some 26, .load 3 (.tmp 25), 3, some (21, false)), some (some 27, .binOp .geq 3 (.tmp 26) (.const (.int .i64 1048576)) 3, 4, some (21, false)), zz 28 (.pick (.tmp 24) (.const (.bool true)) (.tmp 27)) 4] := by kernel_rfl
theorem cl47 : callable Try.f47 = true := by kernel_rfl
theorem g82_1_9 : dstOf (regOf Try.f82 1) 9 = some 12 := by kernel_rfl
theorem g82_1_16 : dstOf (regOf Try.f82 1) 16 = some 19 := by kernel_rfl
theorem g82_1_21 : dstOf (regOf Try.f82 1) 21 = some 24 := by kernel_rfl
theorem p82_2_0 : pj (regOf Try.f82 2) 0 = some (some 2, .assign (.const (.int .i64 1)), 36, none) := by kernel_rfl
theorem p82_3_0 : pj (regOf Try.f82 3) 0 = some (some 2, .assign (.const (.int .i64 0)), 36, none) := by kernel_rfl
set_option maxHeartbeats 4000000 in
theorem check_any (c f l x h : Int) (s d : Nat → Int) (e0 : Int) (he : (if okF c f l x h then 0 else 1) = e0) (w : World) : Calls Try.prog 82 #[Value.agg (([Value.int .i64 c, Value.int .i64 f, Value.int .i64 l, Value.int .i64 x, Value.int .i64 h] ++ b16 s ++ b16 d)).toArray] w fun e w' => e = .returned (.int .i64 e0) ∧ Kp w w' (fun _ => False) := by
 have K_0 := Kp.refl w (fun _ => False)
 refine enter (args := [Value.agg (([Value.int .i64 c, Value.int .i64 f, Value.int .i64 l, Value.int .i64 x, Value.int .i64 h] ++ b16 s ++ b16 d)).toArray]) (n := 29) Try.func82 body82 rfl rfl rfl ?_
 intro a hE
 refine c_reg R82_0_l ?_
 refine p_cons (s_box (pl P82_0 0) hE wn_none rfl rfl ?_)
 clear hE a; intro g1 w2 z3 B_g1 hk a hE
 replace B_g1 : w2.heap[g1]? = some (.cells (([Value.int .i64 c, Value.int .i64 f, Value.int .i64 l, Value.int .i64 x, Value.int .i64 h] ++ b16 s ++ b16 d)).toArray 27 (0, 0)) := B_g1
 have z_0_g1 := Nat.le_trans K_0.kept.1 z3
 replace K_0 := K_0.then_ hk (fun _ h => h.elim)
 clear hk
 refine q0 (pl P82_0 1) hE (st_assign rfl) ?_; clear hE a; intro a hE
 refine p_nil (x_norm (wp_seq (c_reg R82_1_l ?_)))
 refine qn hE (rc (pl P82_1 0) (st_fieldAddr Try.underlying27 rfl tS3 rfl rfl) (rc (pl P82_1 1) (st_load1 tA3 rfl ((blk_cell B_g1 0).trans rfl)) (rc (pl P82_1 2) (st_fieldAddr Try.underlying27 rfl tS3 rfl rfl) (rc (pl P82_1 3) (st_load1 tA3 rfl ((blk_cell B_g1 3).trans rfl)) (rc (pl P82_1 4) (st_fieldAddr Try.underlying27 rfl tS3 rfl rfl) (rc (pl P82_1 5) (st_load1 tA3 rfl ((blk_cell B_g1 4).trans rfl)) rn)))))) ?_; clear hE a; intro a hE
 refine p_cons (s_row (xs := [(0, Operand.tmp 4), (1, Operand.tmp 6), (2, Operand.tmp 8)]) (vs := [(0, Value.int .i64 c), (1, Value.int .i64 x), (2, Value.int .i64 h)]) (cs := #[Value.int .i64 c, Value.int .i64 x, Value.int .i64 h]) (pl P82_1 6) hE wn_none rfl Try.underlying22 rfl (by kernel_rfl) ?_)
 clear hE a; intro g4 w5 z6 B_g4 hk a hE
 have n_g1_g4 : g1 ≠ g4 := ne_new B_g1 z6
 have z_0_g4 := Nat.le_trans K_0.kept.1 z6
 replace B_g1 := kp_blk B_g1 hk (fun h => h)
 replace K_0 := K_0.then_ hk (fun _ h => h.elim)
 clear hk
 refine p_cons (s_call (xs := [Operand.const (Value.int IntKind.i64 1), Operand.tmp 9]) (args := [Value.int .i64 1, Value.slice (some ⟨g4, 0, none⟩) 3 3]) (pl P82_1 7) hE wn_none rfl rfl Try.func47 cl47 (fits_any (some ⟨g4, 0, none⟩) 3 1 [c, x, h] (fitsF 1 [c, x, h]) rfl _ (C_blk (k := .i64) (l := [c, x, h]) (off := 0) B_g4 ⟨rfl, Nat.le_of_ble_eq_true rfl⟩ rfl) (Nat.le_of_ble_eq_true rfl)) ?_)
 rintro e w7 ⟨rfl, hk⟩
 replace B_g1 := kp_blk B_g1 hk (fun h => h)
 replace B_g4 := kp_blk B_g4 hk (fun h => h)
 replace K_0 := K_0.then_ hk (fun _ h => h.elim)
 refine ⟨_, rfl, ?_⟩; clear hE a; intro a hE
 refine qn hE (rc (pl P82_1 8) (st_not rfl rfl) (rc (pl P82_1 9) (st_move rfl) rn)) ?_; clear hE a; intro a hE
 rcases Bool.eq_false_or_eq_true (fitsF 1 [c, x, h]) with hb8 | hb8
 ·
  rw [hb8] at hE
  refine qn hE (rg (pl P82_1 10) (wn_some g82_1_9 rfl rfl) (st_fieldAddr Try.underlying27 rfl tS3 rfl rfl) (rg (pl P82_1 11) (wn_some g82_1_9 rfl rfl) (st_load1 tA3 rfl ((blk_cell B_g1 2).trans rfl)) rn)) ?_; clear hE a; intro a hE
  refine p_cons (s_row (xs := [(0, Operand.tmp 14)]) (vs := [(0, Value.int .i64 l)]) (cs := #[Value.int .i64 l]) (pl P82_1 12) hE (wn_some g82_1_9 rfl rfl) rfl Try.underlying22 rfl (by kernel_rfl) ?_)
  clear hE a; intro g9 w10 z11 B_g9 hk a hE
  have n_g1_g9 : g1 ≠ g9 := ne_new B_g1 z11
  have n_g4_g9 : g4 ≠ g9 := ne_new B_g4 z11
  have z_0_g9 := Nat.le_trans K_0.kept.1 z11
  replace B_g1 := kp_blk B_g1 hk (fun h => h)
  replace B_g4 := kp_blk B_g4 hk (fun h => h)
  replace K_0 := K_0.then_ hk (fun _ h => h.elim)
  clear hk
  refine p_cons (s_call (xs := [Operand.const (Value.int IntKind.i64 2), Operand.tmp 15]) (args := [Value.int .i64 2, Value.slice (some ⟨g9, 0, none⟩) 1 1]) (pl P82_1 13) hE (wn_some g82_1_9 rfl rfl) rfl rfl Try.func47 cl47 (fits_any (some ⟨g9, 0, none⟩) 1 2 [l] (fitsF 2 [l]) rfl _ (C_blk (k := .i64) (l := [l]) (off := 0) B_g9 ⟨rfl, Nat.le_of_ble_eq_true rfl⟩ rfl) (Nat.le_of_ble_eq_true rfl)) ?_)
  rintro e w12 ⟨rfl, hk⟩
  replace B_g1 := kp_blk B_g1 hk (fun h => h)
  replace B_g4 := kp_blk B_g4 hk (fun h => h)
  replace B_g9 := kp_blk B_g9 hk (fun h => h)
  replace K_0 := K_0.then_ hk (fun _ h => h.elim)
  refine ⟨_, rfl, ?_⟩; clear hE a; intro a hE
  refine qn hE (rg (pl P82_1 14) (wn_some g82_1_9 rfl rfl) (st_not rfl rfl) (rc (pl P82_1 15) (st_pick rfl rfl) (rc (pl P82_1 16) (st_move rfl) rn))) ?_; clear hE a; intro a hE
  rcases Bool.eq_false_or_eq_true (fitsF 2 [l]) with hb13 | hb13
  ·
   rw [hb13] at hE
   refine qn hE (rg (pl P82_1 17) (wn_some g82_1_16 rfl rfl) (st_fieldAddr Try.underlying27 rfl tS3 rfl rfl) (rg (pl P82_1 18) (wn_some g82_1_16 rfl rfl) (st_load1 tA3 rfl ((blk_cell B_g1 1).trans rfl)) rn)) ?_; clear hE a; intro a hE
   rcases Decidable.em (f < 0) with hc14 | hc14
   ·
    refine qn hE (rg (v := Value.bool true) (pl P82_1 19) (wn_some g82_1_16 rfl rfl) (st_lss rfl rfl (decide_eq_true hc14)) (rc (pl P82_1 20) (st_pick rfl rfl) (rc (pl P82_1 21) (st_move rfl) (Ds.rk (pl P82_1 22) (wn_some g82_1_21 rfl rfl) (Ds.rk (pl P82_1 23) (wn_some g82_1_21 rfl rfl) (Ds.rk (pl P82_1 24) (wn_some g82_1_21 rfl rfl) (rc (pl P82_1 25) (st_pick rfl rfl) rn))))))) ?_; clear hE a; intro a hE
    refine p_nil (x_norm ?_)
    refine c_cond (t := true) hE rfl ?_
    refine c_reg R82_2_l ?_
    refine q0 p82_2_0 hE (st_assign rfl) ?_; clear hE a; intro a hE
    refine p_nil (x_norm (wp_ret (x_ret ?_)))
    refine ret_one (v := Value.int .i64 1) rfl hE (.tmp rfl .nil) ?_
    exact ⟨by rw [← he]; unfold okF; rw [hb8, hb13, decide_eq_false (by omega)]; rfl, K_0⟩
   ·
    refine qn hE (rg (v := Value.bool false) (pl P82_1 19) (wn_some g82_1_16 rfl rfl) (st_lss rfl rfl (decide_eq_false hc14)) (rc (pl P82_1 20) (st_pick rfl rfl) (rc (pl P82_1 21) (st_move rfl) (rg (pl P82_1 22) (wn_some g82_1_21 rfl rfl) (st_fieldAddr Try.underlying27 rfl tS3 rfl rfl) (rg (pl P82_1 23) (wn_some g82_1_21 rfl rfl) (st_load1 tA3 rfl ((blk_cell B_g1 1).trans rfl)) rn))))) ?_; clear hE a; intro a hE
    rcases Decidable.em (1048576 ≤ f) with hc15 | hc15
    ·
     refine qn hE (rg (v := Value.bool true) (pl P82_1 24) (wn_some g82_1_21 rfl rfl) (st_geq rfl rfl (decide_eq_true hc15)) (rc (pl P82_1 25) (st_pick rfl rfl) rn)) ?_; clear hE a; intro a hE
     refine p_nil (x_norm ?_)
     refine c_cond (t := true) hE rfl ?_
     refine c_reg R82_2_l ?_
     refine q0 p82_2_0 hE (st_assign rfl) ?_; clear hE a; intro a hE
     refine p_nil (x_norm (wp_ret (x_ret ?_)))
     refine ret_one (v := Value.int .i64 1) rfl hE (.tmp rfl .nil) ?_
     exact ⟨by rw [← he]; unfold okF; rw [hb8, hb13, decide_eq_false (by omega)]; rfl, K_0⟩
    ·
     refine qn hE (rg (v := Value.bool false) (pl P82_1 24) (wn_some g82_1_21 rfl rfl) (st_geq rfl rfl (decide_eq_false hc15)) (rc (pl P82_1 25) (st_pick rfl rfl) rn)) ?_; clear hE a; intro a hE
     refine p_nil (x_norm ?_)
     refine c_cond (t := false) hE rfl ?_
     refine wp_skip (x_norm (c_reg R82_3_l ?_))
     refine q0 p82_3_0 hE (st_assign rfl) ?_; clear hE a; intro a hE
     refine p_nil (x_norm (wp_ret ?_))
     refine ret_one (v := Value.int .i64 0) rfl hE (.tmp rfl .nil) ?_
     exact ⟨by rw [← he]; unfold okF; rw [hb8, hb13, decide_eq_true (by omega)]; rfl, K_0⟩
  ·
   rw [hb13] at hE
   refine qn hE (Ds.rk (pl P82_1 17) (wn_some g82_1_16 rfl rfl) (Ds.rk (pl P82_1 18) (wn_some g82_1_16 rfl rfl) (Ds.rk (pl P82_1 19) (wn_some g82_1_16 rfl rfl) (rc (pl P82_1 20) (st_pick rfl rfl) (rc (pl P82_1 21) (st_move rfl) (Ds.rk (pl P82_1 22) (wn_some g82_1_21 rfl rfl) (Ds.rk (pl P82_1 23) (wn_some g82_1_21 rfl rfl) (Ds.rk (pl P82_1 24) (wn_some g82_1_21 rfl rfl) (rc (pl P82_1 25) (st_pick rfl rfl) rn))))))))) ?_; clear hE a; intro a hE
   refine p_nil (x_norm ?_)
   refine c_cond (t := true) hE rfl ?_
   refine c_reg R82_2_l ?_
   refine q0 p82_2_0 hE (st_assign rfl) ?_; clear hE a; intro a hE
   refine p_nil (x_norm (wp_ret (x_ret ?_)))
   refine ret_one (v := Value.int .i64 1) rfl hE (.tmp rfl .nil) ?_
   exact ⟨by rw [← he]; unfold okF; rw [hb8, hb13]; rfl, K_0⟩
 ·
  rw [hb8] at hE
  refine qn hE (Ds.rk (pl P82_1 10) (wn_some g82_1_9 rfl rfl) (Ds.rk (pl P82_1 11) (wn_some g82_1_9 rfl rfl) (Ds.rk (pl P82_1 12) (wn_some g82_1_9 rfl rfl) (Ds.rk (pl P82_1 13) (wn_some g82_1_9 rfl rfl) (Ds.rk (pl P82_1 14) (wn_some g82_1_9 rfl rfl) (rc (pl P82_1 15) (st_pick rfl rfl) (rc (pl P82_1 16) (st_move rfl) (Ds.rk (pl P82_1 17) (wn_some g82_1_16 rfl rfl) (Ds.rk (pl P82_1 18) (wn_some g82_1_16 rfl rfl) (Ds.rk (pl P82_1 19) (wn_some g82_1_16 rfl rfl) (rc (pl P82_1 20) (st_pick rfl rfl) (rc (pl P82_1 21) (st_move rfl) (Ds.rk (pl P82_1 22) (wn_some g82_1_21 rfl rfl) (Ds.rk (pl P82_1 23) (wn_some g82_1_21 rfl rfl) (Ds.rk (pl P82_1 24) (wn_some g82_1_21 rfl rfl) (rc (pl P82_1 25) (st_pick rfl rfl) rn)))))))))))))))) ?_; clear hE a; intro a hE
  refine p_nil (x_norm ?_)
  refine c_cond (t := true) hE rfl ?_
  refine c_reg R82_2_l ?_
  refine q0 p82_2_0 hE (st_assign rfl) ?_; clear hE a; intro a hE
  refine p_nil (x_norm (wp_ret (x_ret ?_)))
  refine ret_one (v := Value.int .i64 1) rfl hE (.tmp rfl .nil) ?_
  exact ⟨by rw [← he]; unfold okF; rw [hb8]; rfl, K_0⟩
theorem R110_0_l : List.range (regOf Try.f110 0).size = [0, 1, 2] := by kernel_rfl
theorem R110_1_l : List.range (regOf Try.f110 1).size = [0, 1, 2] := by kernel_rfl
theorem R110_2_l : List.range (regOf Try.f110 2).size = [0, 1] := by kernel_rfl
theorem R110_4_l : List.range (regOf Try.f110 4).size = [0, 1, 2] := by kernel_rfl
theorem R110_5_l : List.range (regOf Try.f110 5).size = [0, 1, 2] := by kernel_rfl
theorem R110_6_l : List.range (regOf Try.f110 6).size = [0, 1, 2, 3, 4] := by kernel_rfl
theorem R110_7_l : List.range (regOf Try.f110 7).size = [0, 1, 2] := by kernel_rfl
theorem body110 : Try.f110.body = some (.seq (.region 0 (regOf Try.f110 0) false) (.seq (.seq (.region 1 (regOf Try.f110 1) false) (.seq (.region 2 (regOf Try.f110 2) false) (.cond (Operand.tmp 8) (.seq (.region 3 (regOf Try.f110 3) false) (.ret)) (.skip)))) (.seq (.seq (.region 4 (regOf Try.f110 4) false) (.cond (Operand.tmp 13) (.seq (.region 5 (regOf Try.f110 5) false) (.ret)) (.skip))) (.seq (.region 6 (regOf Try.f110 6) false) (.seq (.region 7 (regOf Try.f110 7) false) (.ret)))))) := by kernel_rfl
theorem P110_0 : (List.range (regOf Try.f110 0).size).map (pj (regOf Try.f110 0)) = [zz 1 (.box 27 (.tmp 0)) 0, zz 2 (.alloc 27) 0, zz 3 (.assign (.const (.int .i64 0))) 36] := by kernel_rfl
theorem P110_1 : (List.range (regOf Try.f110 1).size).map (pj (regOf Try.f110 1)) = [zz 5 (.load 27 (.tmp 1)) 27, zz 6 (.call { callee := .value (.func 82), args := #[.tmp 5], argTypes := #[27] }) 36, zz 4 (.assign (.tmp 6)) 36] := by kernel_rfl
theorem cl82 : callable Try.f82 = true := by kernel_rfl
theorem P110_2 : (List.range (regOf Try.f110 2).size).map (pj (regOf Try.f110 2)) = [zz 7 (.move (.tmp 4)) 36, zz 8 (.binOp .neq 36 (.tmp 7) (.const (.int .i64 0)) 36) 4] := by kernel_rfl
theorem P110_4 : (List.range (regOf Try.f110 4).size).map (pj (regOf Try.f110 4)) = [zz 11 (.fieldAddr 27 (.tmp 1) 4) 0, zz 12 (.load 3 (.tmp 11)) 3, zz 13 (.binOp .lss 3 (.tmp 12) (.const (.int .i64 2)) 3) 4] := by kernel_rfl
theorem P110_5 : (List.range (regOf Try.f110 5).size).map (pj (regOf Try.f110 5)) = [zz 14 (.build 27 #[]) 27, some (none, .store 27 (.tmp 2) (.tmp 14), 0, none), zz 3 (.assign (.const (.int .i64 12))) 36] := by kernel_rfl
set_option maxHeartbeats 4000000 in
theorem passed_low (c f l x h : Int) (s d : Nat → Int) (hok : okF c f l x h = true) (h2 : h < 2) (w : World) : Calls Try.prog 110 #[Value.agg (([Value.int .i64 c, Value.int .i64 f, Value.int .i64 l, Value.int .i64 x, Value.int .i64 h] ++ b16 s ++ b16 d)).toArray] w fun e w' => e = .returned (.tuple #[Value.agg (([Value.int .i64 0, Value.int .i64 0, Value.int .i64 0, Value.int .i64 0, Value.int .i64 0] ++ b16 (fun _ => 0) ++ b16 (fun _ => 0))).toArray, .int .i64 12]) ∧ Kp w w' (fun _ => False) := by
 have K_0 := Kp.refl w (fun _ => False)
 refine enter (args := [Value.agg (([Value.int .i64 c, Value.int .i64 f, Value.int .i64 l, Value.int .i64 x, Value.int .i64 h] ++ b16 s ++ b16 d)).toArray]) (n := 20) Try.func110 body110 rfl rfl rfl ?_
 intro a hE
 refine c_reg R110_0_l ?_
 refine p_cons (s_box (pl P110_0 0) hE wn_none rfl rfl ?_)
 clear hE a; intro g1 w2 z3 B_g1 hk a hE
 replace B_g1 : w2.heap[g1]? = some (.cells (([Value.int .i64 c, Value.int .i64 f, Value.int .i64 l, Value.int .i64 x, Value.int .i64 h] ++ b16 s ++ b16 d)).toArray 27 (0, 0)) := B_g1
 have z_0_g1 := Nat.le_trans K_0.kept.1 z3
 replace K_0 := K_0.then_ hk (fun _ h => h.elim)
 clear hk
 refine p_cons (s_alloc (pl P110_0 1) hE wn_none rfl tZ27 ?_)
 clear hE a; intro g4 w5 z6 B_g4 hk a hE
 replace B_g4 : w5.heap[g4]? = some (.cells (([Value.int .i64 0, Value.int .i64 0, Value.int .i64 0, Value.int .i64 0, Value.int .i64 0] ++ b16 (fun _ => 0) ++ b16 (fun _ => 0))).toArray 27 (0, 0)) := B_g4
 have n_g1_g4 : g1 ≠ g4 := ne_new B_g1 z6
 have z_0_g4 := Nat.le_trans K_0.kept.1 z6
 replace B_g1 := kp_blk B_g1 hk (fun h => h)
 replace K_0 := K_0.then_ hk (fun _ h => h.elim)
 clear hk
 refine q0 (pl P110_0 2) hE (st_assign rfl) ?_; clear hE a; intro a hE
 refine p_nil (x_norm (wp_seq (c_reg R110_1_l ?_)))
 refine q0 (pl P110_1 0) hE (st_loadN (off := 0) (k := 37) (vs := ([Value.int .i64 c, Value.int .i64 f, Value.int .i64 l, Value.int .i64 x, Value.int .i64 h] ++ b16 s ++ b16 d)) tA27 tS27 rfl B_g1 rfl rfl) ?_; clear hE a; intro a hE
 refine p_cons (s_call (xs := [Operand.tmp 5]) (args := [Value.agg (([Value.int .i64 c, Value.int .i64 f, Value.int .i64 l, Value.int .i64 x, Value.int .i64 h] ++ b16 s ++ b16 d)).toArray]) (pl P110_1 1) hE wn_none rfl rfl Try.func82 cl82 (check_any c f l x h s d 0 (by rw [hok]; rfl) _) ?_)
 rintro e w7 ⟨rfl, hk⟩
 replace B_g1 := kp_blk B_g1 hk (fun h => h)
 replace B_g4 := kp_blk B_g4 hk (fun h => h)
 replace K_0 := K_0.then_ hk (fun _ h => h.elim)
 refine ⟨_, rfl, ?_⟩; clear hE a; intro a hE
 refine q0 (pl P110_1 2) hE (st_assign rfl) ?_; clear hE a; intro a hE
 refine p_nil (x_norm (c_reg R110_2_l ?_))
 refine qn hE (rc (pl P110_2 0) (st_move rfl) (rc (pl P110_2 1) (st_neq (b := false) rfl rfl (by decide)) rn)) ?_; clear hE a; intro a hE
 refine p_nil (x_norm ?_)
 refine c_cond (t := false) hE rfl ?_
 refine wp_skip (x_norm (wp_seq (c_reg R110_4_l ?_)))
 refine qn hE (rc (pl P110_4 0) (st_fieldAddr Try.underlying27 rfl tS3 rfl rfl) (rc (pl P110_4 1) (st_load1 tA3 rfl ((blk_cell B_g1 4).trans rfl)) (rc (pl P110_4 2) (st_lss (b := true) rfl rfl (decide_eq_true h2)) rn))) ?_; clear hE a; intro a hE
 refine p_nil (x_norm ?_)
 refine c_cond (t := true) hE rfl ?_
 refine c_reg R110_5_l ?_
 refine q0 (pl P110_5 0) hE (st_build (xs := []) (vs := []) (cs := (([Value.int .i64 0, Value.int .i64 0, Value.int .i64 0, Value.int .i64 0, Value.int .i64 0] ++ b16 (fun _ => 0) ++ b16 (fun _ => 0))).toArray) rfl (by kernel_rfl)) ?_; clear hE a; intro a hE
 refine p_cons (s_store (off := 0) (k := 37) (cs' := (([Value.int .i64 0, Value.int .i64 0, Value.int .i64 0, Value.int .i64 0, Value.int .i64 0] ++ b16 (fun _ => 0) ++ b16 (fun _ => 0))).toArray) (pl P110_5 1) hE wn_none tS27 rfl rfl rfl rfl B_g4 (Nat.le_of_ble_eq_true rfl) rfl ?_)
 intro w8 B_g4' hk
 replace B_g1 := kp_blk B_g1 hk n_g1_g4
 replace K_0 := K_0.then_ hk (fun k h => by rw [show k = g4 from h]; exact Or.inr z_0_g4)
 replace B_g4 := B_g4'
 clear hk
 refine q0 (pl P110_5 2) hE (st_assign rfl) ?_; clear hE a; intro a hE
 refine p_nil (x_norm (wp_ret (x_ret ?_)))
 refine ret_list (rs := [.cell 2 27, .tmp 3]) (vs := [Value.agg (([Value.int .i64 0, Value.int .i64 0, Value.int .i64 0, Value.int .i64 0, Value.int .i64 0] ++ b16 (fun _ => 0) ++ b16 (fun _ => 0))).toArray, Value.int .i64 12]) rfl hE (.cellN (us := ([Value.int .i64 0, Value.int .i64 0, Value.int .i64 0, Value.int .i64 0, Value.int .i64 0] ++ b16 (fun _ => 0) ++ b16 (fun _ => 0))) tA27 tS27 rfl B_g4 rfl (.tmp rfl .nil)) rfl ?_
 exact ⟨rfl, K_0⟩
theorem P110_6 : (List.range (regOf Try.f110 6).size).map (pj (regOf Try.f110 6)) = [zz 15 (.fieldAddr 27 (.tmp 1) 4) 0, zz 16 (.load 3 (.tmp 15)) 3, zz 17 (.binOp .sub 3 (.tmp 16) (.const (.int .i64 1)) 3) 3, zz 18 (.fieldAddr 27 (.tmp 1) 4) 0, some (none, .store 3 (.tmp 18) (.tmp 17), 0, none)] := by kernel_rfl
theorem P110_7 : (List.range (regOf Try.f110 7).size).map (pj (regOf Try.f110 7)) = [zz 19 (.load 27 (.tmp 1)) 27, some (none, .store 27 (.tmp 2) (.tmp 19), 0, none), zz 3 (.assign (.const (.int .i64 0))) 36] := by kernel_rfl
set_option maxHeartbeats 4000000 in
theorem passed_ok (c f l x h : Int) (s d : Nat → Int) (hok : okF c f l x h = true) (h2 : ¬ h < 2) (w : World) : Calls Try.prog 110 #[Value.agg (([Value.int .i64 c, Value.int .i64 f, Value.int .i64 l, Value.int .i64 x, Value.int .i64 h] ++ b16 s ++ b16 d)).toArray] w fun e w' => e = .returned (.tuple #[Value.agg (([Value.int .i64 c, Value.int .i64 f, Value.int .i64 l, Value.int .i64 x, Value.int .i64 (h - 1)] ++ b16 s ++ b16 d)).toArray, .int .i64 0]) ∧ Kp w w' (fun _ => False) := by
 have K_0 := Kp.refl w (fun _ => False)
 obtain ⟨_, _, _, _, hh1, hh2⟩ := okF_of hok
 refine enter (args := [Value.agg (([Value.int .i64 c, Value.int .i64 f, Value.int .i64 l, Value.int .i64 x, Value.int .i64 h] ++ b16 s ++ b16 d)).toArray]) (n := 20) Try.func110 body110 rfl rfl rfl ?_
 intro a hE
 refine c_reg R110_0_l ?_
 refine p_cons (s_box (pl P110_0 0) hE wn_none rfl rfl ?_)
 clear hE a; intro g1 w2 z3 B_g1 hk a hE
 replace B_g1 : w2.heap[g1]? = some (.cells (([Value.int .i64 c, Value.int .i64 f, Value.int .i64 l, Value.int .i64 x, Value.int .i64 h] ++ b16 s ++ b16 d)).toArray 27 (0, 0)) := B_g1
 have z_0_g1 := Nat.le_trans K_0.kept.1 z3
 replace K_0 := K_0.then_ hk (fun _ h => h.elim)
 clear hk
 refine p_cons (s_alloc (pl P110_0 1) hE wn_none rfl tZ27 ?_)
 clear hE a; intro g4 w5 z6 B_g4 hk a hE
 replace B_g4 : w5.heap[g4]? = some (.cells (([Value.int .i64 0, Value.int .i64 0, Value.int .i64 0, Value.int .i64 0, Value.int .i64 0] ++ b16 (fun _ => 0) ++ b16 (fun _ => 0))).toArray 27 (0, 0)) := B_g4
 have n_g1_g4 : g1 ≠ g4 := ne_new B_g1 z6
 have z_0_g4 := Nat.le_trans K_0.kept.1 z6
 replace B_g1 := kp_blk B_g1 hk (fun h => h)
 replace K_0 := K_0.then_ hk (fun _ h => h.elim)
 clear hk
 refine q0 (pl P110_0 2) hE (st_assign rfl) ?_; clear hE a; intro a hE
 refine p_nil (x_norm (wp_seq (c_reg R110_1_l ?_)))
 refine q0 (pl P110_1 0) hE (st_loadN (off := 0) (k := 37) (vs := ([Value.int .i64 c, Value.int .i64 f, Value.int .i64 l, Value.int .i64 x, Value.int .i64 h] ++ b16 s ++ b16 d)) tA27 tS27 rfl B_g1 rfl rfl) ?_; clear hE a; intro a hE
 refine p_cons (s_call (xs := [Operand.tmp 5]) (args := [Value.agg (([Value.int .i64 c, Value.int .i64 f, Value.int .i64 l, Value.int .i64 x, Value.int .i64 h] ++ b16 s ++ b16 d)).toArray]) (pl P110_1 1) hE wn_none rfl rfl Try.func82 cl82 (check_any c f l x h s d 0 (by rw [hok]; rfl) _) ?_)
 rintro e w7 ⟨rfl, hk⟩
 replace B_g1 := kp_blk B_g1 hk (fun h => h)
 replace B_g4 := kp_blk B_g4 hk (fun h => h)
 replace K_0 := K_0.then_ hk (fun _ h => h.elim)
 refine ⟨_, rfl, ?_⟩; clear hE a; intro a hE
 refine q0 (pl P110_1 2) hE (st_assign rfl) ?_; clear hE a; intro a hE
 refine p_nil (x_norm (c_reg R110_2_l ?_))
 refine qn hE (rc (pl P110_2 0) (st_move rfl) (rc (pl P110_2 1) (st_neq (b := false) rfl rfl (by decide)) rn)) ?_; clear hE a; intro a hE
 refine p_nil (x_norm ?_)
 refine c_cond (t := false) hE rfl ?_
 refine wp_skip (x_norm (wp_seq (c_reg R110_4_l ?_)))
 refine qn hE (rc (pl P110_4 0) (st_fieldAddr Try.underlying27 rfl tS3 rfl rfl) (rc (pl P110_4 1) (st_load1 tA3 rfl ((blk_cell B_g1 4).trans rfl)) (rc (pl P110_4 2) (st_lss (b := false) rfl rfl (decide_eq_false h2)) rn))) ?_; clear hE a; intro a hE
 refine p_nil (x_norm ?_)
 refine c_cond (t := false) hE rfl ?_
 refine wp_skip (x_norm (c_reg R110_6_l ?_))
 refine qn hE (rc (pl P110_6 0) (st_fieldAddr Try.underlying27 rfl tS3 rfl rfl) (rc (pl P110_6 1) (st_load1 tA3 rfl ((blk_cell B_g1 4).trans rfl)) (rc (pl P110_6 2) (st_sub (z := h - 1) rfl rfl (wr_i64 _ (by omega) (by omega))) (rc (pl P110_6 3) (st_fieldAddr Try.underlying27 rfl tS3 rfl rfl) rn)))) ?_; clear hE a; intro a hE
 refine p_cons (s_store (off := 4) (k := 1) (cs' := (([Value.int .i64 c, Value.int .i64 f, Value.int .i64 l, Value.int .i64 x, Value.int .i64 (h - 1)] ++ b16 s ++ b16 d)).toArray) (pl P110_6 4) hE wn_none tS3 rfl rfl rfl rfl B_g1 (Nat.le_of_ble_eq_true rfl) rfl ?_)
 intro w8 B_g1' hk
 replace B_g4 := kp_blk B_g4 hk (Ne.symm n_g1_g4)
 replace K_0 := K_0.then_ hk (fun k h => by rw [show k = g1 from h]; exact Or.inr z_0_g1)
 replace B_g1 := B_g1'
 clear hk
 refine p_nil (x_norm (c_reg R110_7_l ?_))
 refine q0 (pl P110_7 0) hE (st_loadN (off := 0) (k := 37) (vs := ([Value.int .i64 c, Value.int .i64 f, Value.int .i64 l, Value.int .i64 x, Value.int .i64 (h - 1)] ++ b16 s ++ b16 d)) tA27 tS27 rfl B_g1 rfl rfl) ?_; clear hE a; intro a hE
 refine p_cons (s_store (off := 0) (k := 37) (cs' := (([Value.int .i64 c, Value.int .i64 f, Value.int .i64 l, Value.int .i64 x, Value.int .i64 (h - 1)] ++ b16 s ++ b16 d)).toArray) (pl P110_7 1) hE wn_none tS27 rfl rfl rfl rfl B_g4 (Nat.le_of_ble_eq_true rfl) rfl ?_)
 intro w9 B_g4' hk
 replace B_g1 := kp_blk B_g1 hk n_g1_g4
 replace K_0 := K_0.then_ hk (fun k h => by rw [show k = g4 from h]; exact Or.inr z_0_g4)
 replace B_g4 := B_g4'
 clear hk
 refine q0 (pl P110_7 2) hE (st_assign rfl) ?_; clear hE a; intro a hE
 refine p_nil (x_norm (wp_ret ?_))
 refine ret_list (rs := [.cell 2 27, .tmp 3]) (vs := [Value.agg (([Value.int .i64 c, Value.int .i64 f, Value.int .i64 l, Value.int .i64 x, Value.int .i64 (h - 1)] ++ b16 s ++ b16 d)).toArray, Value.int .i64 0]) rfl hE (.cellN (us := ([Value.int .i64 c, Value.int .i64 f, Value.int .i64 l, Value.int .i64 x, Value.int .i64 (h - 1)] ++ b16 s ++ b16 d)) tA27 tS27 rfl B_g4 rfl (.tmp rfl .nil)) rfl ?_
 exact ⟨rfl, K_0⟩
theorem R124_0_l : List.range (regOf Try.f124 0).size = [0] := by kernel_rfl
theorem R124_1_l : List.range (regOf Try.f124 1).size = [0, 1, 2, 3, 4] := by kernel_rfl
theorem R124_2_l : List.range (regOf Try.f124 2).size = [0, 1, 2, 3, 4, 5, 6, 7, 8, 9, 10, 11, 12, 13, 14, 15, 16, 17] := by kernel_rfl
theorem R124_3_l : List.range (regOf Try.f124 3).size = [0, 1] := by kernel_rfl
theorem body124 : Try.f124.body = some (.seq (.region 0 (regOf Try.f124 0) false) (.seq (.seq (.region 1 (regOf Try.f124 1) false) (.cond (Operand.tmp 11) (.region 2 (regOf Try.f124 2) false) (.skip))) (.seq (.region 3 (regOf Try.f124 3) false) (.ret)))) := by kernel_rfl
theorem p124_0_0 : pj (regOf Try.f124 0) 0 = some (some 6, .assign (.const (.pointer none)), 207, none) := by kernel_rfl
theorem P124_1 : (List.range (regOf Try.f124 1).size).map (pj (regOf Try.f124 1)) = [zz 7 (.move (.tmp 0)) 207, zz 8 (.nilCheck (.tmp 7)) 0, zz 9 (.fieldAddr 209 (.tmp 8) 1) 0, zz 10 (.load 36 (.tmp 9)) 36, zz 11 (.binOp .eql 36 (.tmp 10) (.const (.int .i64 0)) 36) 4] := by kernel_rfl
theorem tS36 : (Try.prog.info? 36).map (·.size) = some 1 := by kernel_rfl
theorem tA36 : (Try.prog.underlying 36).map aggD = some false := by kernel_rfl
theorem P124_2 : (List.range (regOf Try.f124 2).size).map (pj (regOf Try.f124 2)) = [zz 13 (.move (.tmp 0)) 207, zz 14 (.move (.tmp 0)) 207, zz 15 (.move (.tmp 0)) 207, zz 16 (.nilCheck (.tmp 15)) 0, zz 17 (.fieldAddr 209 (.tmp 16) 0) 0, zz 18 (.load 33 (.tmp 17)) 33, zz 19 (.move (.tmp 1)) 3, zz 20 (.move (.tmp 2)) 22, zz 21 (.call { callee := .value (.func 81), args := #[.tmp 18, .tmp 19, .tmp 20], argTypes := #[33, 3, 22] }) 60, zz 12 (.move (.tmp 21)) 60, zz 22 (.extract (.tmp 12) 0) 33, zz 23 (.extract (.tmp 12) 1) 36, zz 24 (.nilCheck (.tmp 13)) 0, zz 25 (.fieldAddr 209 (.tmp 24) 0) 0, some (none, .store 33 (.tmp 25) (.tmp 22), 0, none), zz 26 (.nilCheck (.tmp 14)) 0, zz 27 (.fieldAddr 209 (.tmp 26) 1) 0, some (none, .store 36 (.tmp 27) (.tmp 23), 0, none)] := by kernel_rfl
theorem tS33 : (Try.prog.info? 33).map (·.size) = some 1 := by kernel_rfl
theorem tA33 : (Try.prog.underlying 33).map aggD = some false := by kernel_rfl
theorem cl81 : callable Try.f81 = true := by kernel_rfl
theorem P124_3 : (List.range (regOf Try.f124 3).size).map (pj (regOf Try.f124 3)) = [zz 28 (.move (.tmp 0)) 207, zz 6 (.assign (.tmp 28)) 207] := by kernel_rfl
set_option maxHeartbeats 4000000 in
theorem chain_put (b : Nat) (A B : Option Addr) (c cl : Nat) (k : Int) (X Y : List Int) (w : World) (hb : w.heap[b]? = some (.cells #[.slice A X.length c, .int .i64 0] 209 (0, 0))) (hX : ∀ W, Kp w W (fun k => k = b) → Kd.C (Kd.int .u8) W A X.length X) (hY : ∀ W, Kp w W (fun k => k = b) → Kd.C (Kd.int .i64) W B Y.length Y) (hlc : Y.length ≤ cl) (hfit : fitsF k Y = true) (hlen : (X ++ putF k Y).length ≤ 1280) : Calls Try.prog 124 #[.pointer (some ⟨b, 0, none⟩), .int .i64 k, .slice B Y.length cl] w fun e w' => ∃ A' c', e = .returned (.pointer (some ⟨b, 0, none⟩)) ∧ w'.heap[b]? = some (.cells #[.slice A' (X ++ putF k Y).length c', .int .i64 0] 209 (0, 0)) ∧ w'.ownsRow w.heap.size 5 1 (.slice A' (X ++ putF k Y).length c') (X ++ putF k Y).length (encs (Value.int .u8) (X ++ putF k Y)) ∧ Kp w w' (fun k => k = b) := by
 have K_0 := Kp.refl w (fun k => k = b)
 have B_b := hb
 refine enter (args := [Value.pointer (some ⟨b, 0, none⟩), Value.int .i64 k, Value.slice B Y.length cl]) (n := 29) Try.func124 body124 rfl rfl rfl ?_
 intro a hE
 refine c_reg R124_0_l ?_
 refine q0 p124_0_0 hE (st_assign rfl) ?_; clear hE a; intro a hE
 refine p_nil (x_norm (wp_seq (c_reg R124_1_l ?_)))
 refine qn hE (rc (pl P124_1 0) (st_move rfl) (rc (pl P124_1 1) (st_nil rfl) (rc (pl P124_1 2) (st_fieldAddr Try.underlying209 rfl tS36 rfl rfl) (rc (pl P124_1 3) (st_load1 tA36 rfl ((blk_cell B_b 1).trans rfl)) (rc (pl P124_1 4) (st_eql (b := true) rfl rfl (by decide)) rn))))) ?_; clear hE a; intro a hE
 refine p_nil (x_norm ?_)
 refine c_cond (t := true) hE rfl ?_
 refine c_regL R124_2_l ?_
 refine qn hE (rc (pl P124_2 0) (st_move rfl) (rc (pl P124_2 1) (st_move rfl) (rc (pl P124_2 2) (st_move rfl) (rc (pl P124_2 3) (st_nil rfl) (rc (pl P124_2 4) (st_fieldAddr Try.underlying209 rfl tS33 rfl rfl) (rc (pl P124_2 5) (st_load1 tA33 rfl ((blk_cell B_b 0).trans rfl)) (rc (pl P124_2 6) (st_move rfl) (rc (pl P124_2 7) (st_move rfl) rn)))))))) ?_; clear hE a; intro a hE
 have hnb_b := blk_lt B_b
 have hnz_0 := K_0.kept.1
 refine p_cons (s_call (xs := [Operand.tmp 18, Operand.tmp 19, Operand.tmp 20]) (args := [Value.slice A X.length c, Value.int .i64 k, Value.slice B Y.length cl]) (pl P124_2 8) hE wn_none rfl rfl Try.func81 cl81 (put_ok A B c cl k X Y Y.length rfl hfit _ (hX _ K_0) (hY _ K_0) hlc hlen) ?_)
 rintro e w4 ⟨v, rfl, O_q3, hb⟩
 have hk := Kp.of_below hb (fun _ => False)
 obtain ⟨A1, c2, rfl⟩ := own_sl O_q3
 replace B_b := kp_blk B_b hk (fun h => h)
 replace K_0 := K_0.then_ hk (fun _ h => h.elim)
 have Nb_q3_b : ¬ OB A1 b := fun h => by have := (own_ob O_q3 h).1; have := hnb_b; omega
 have Z_0_q3 : ∀ k, OB A1 k → (fun k => k = b) k ∨ w.heap.size ≤ k := fun k h => .inr (by have := (own_ob O_q3 h).1; have := hnz_0; omega)
 replace O_q3 := own_lower O_q3 hnz_0
 refine ⟨_, rfl, ?_⟩; clear hE a; intro a hE
 refine qn hE (rc (pl P124_2 9) (st_move rfl) (rc (pl P124_2 10) (st_extract rfl rfl) (rc (pl P124_2 11) (st_extract rfl rfl) (rc (pl P124_2 12) (st_nil rfl) (rc (pl P124_2 13) (st_fieldAddr Try.underlying209 rfl tS33 rfl rfl) rn))))) ?_; clear hE a; intro a hE
 refine p_cons (s_store (off := 0) (k := 1) (cs' := #[Value.slice A1 ((X ++ putF k Y).length) c2, Value.int .i64 0]) (pl P124_2 14) hE wn_none tS33 rfl rfl rfl rfl B_b (Nat.le_of_ble_eq_true rfl) rfl ?_)
 intro w5 B_b' hk
 replace O_q3 := own_keep O_q3 hk (fun k hk2 h2 => Nb_q3_b (by rw [show k = b from h2] at hk2; exact hk2))
 replace K_0 := K_0.then_ hk (fun k h => by rw [show k = b from h]; exact Or.inl rfl)
 replace B_b := B_b'
 clear hk
 refine qn hE (rc (pl P124_2 15) (st_nil rfl) (rc (pl P124_2 16) (st_fieldAddr Try.underlying209 rfl tS36 rfl rfl) rn)) ?_; clear hE a; intro a hE
 refine p_cons (s_store (off := 1) (k := 1) (cs' := #[Value.slice A1 ((X ++ putF k Y).length) c2, Value.int .i64 0]) (pl P124_2 17) hE wn_none tS36 rfl rfl rfl rfl B_b (Nat.le_of_ble_eq_true rfl) rfl ?_)
 intro w6 B_b' hk
 replace O_q3 := own_keep O_q3 hk (fun k hk2 h2 => Nb_q3_b (by rw [show k = b from h2] at hk2; exact hk2))
 replace K_0 := K_0.then_ hk (fun k h => by rw [show k = b from h]; exact Or.inl rfl)
 replace B_b := B_b'
 clear hk
 refine p_nil (x_norm (c_reg R124_3_l ?_))
 refine qn hE (rc (pl P124_3 0) (st_move rfl) (rc (pl P124_3 1) (st_assign rfl) rn)) ?_; clear hE a; intro a hE
 refine p_nil (x_norm (wp_ret ?_))
 refine ret_one (v := Value.pointer (some ⟨b, 0, none⟩)) rfl hE (.tmp rfl .nil) ?_
 exact ⟨A1, c2, rfl, B_b, O_q3, K_0⟩
theorem R83_0_l : List.range (regOf Try.f83 0).size = [0, 1, 2] := by kernel_rfl
theorem R83_1_l : List.range (regOf Try.f83 1).size = [0, 1, 2] := by kernel_rfl
theorem R83_2_l : List.range (regOf Try.f83 2).size = [0, 1] := by kernel_rfl
theorem R83_4_l : List.range (regOf Try.f83 4).size = [0, 1, 2, 3, 4, 5, 6, 7] := by kernel_rfl
theorem body83 : Try.f83.body = some (.seq (.region 0 (regOf Try.f83 0) false) (.seq (.seq (.region 1 (regOf Try.f83 1) false) (.seq (.region 2 (regOf Try.f83 2) false) (.cond (Operand.tmp 10) (.seq (.region 3 (regOf Try.f83 3) false) (.ret)) (.skip)))) (.seq (.region 4 (regOf Try.f83 4) false) (.seq (.region 5 (regOf Try.f83 5) true) (.seq (.region 6 (regOf Try.f83 6) true) (.ret)))))) := by kernel_rfl
theorem P83_0 : (List.range (regOf Try.f83 0).size).map (pj (regOf Try.f83 0)) = [zz 1 (.box 27 (.tmp 0)) 0, zz 2 (.assign (.const (.slice none 0 0))) 33, zz 3 (.assign (.const (.int .i64 0))) 36] := by kernel_rfl
theorem P83_1 : (List.range (regOf Try.f83 1).size).map (pj (regOf Try.f83 1)) = [zz 7 (.load 27 (.tmp 1)) 27, zz 8 (.call { callee := .value (.func 82), args := #[.tmp 7], argTypes := #[27] }) 36, zz 4 (.assign (.tmp 8)) 36] := by kernel_rfl
theorem P83_2 : (List.range (regOf Try.f83 2).size).map (pj (regOf Try.f83 2)) = [zz 9 (.move (.tmp 4)) 36, zz 10 (.binOp .neq 36 (.tmp 9) (.const (.int .i64 0)) 36) 4] := by kernel_rfl
theorem P83_4 : (List.range (regOf Try.f83 4).size).map (pj (regOf Try.f83 4)) = [zz 12 (.fieldAddr 27 (.tmp 1) 0) 0, zz 13 (.load 3 (.tmp 12)) 3, zz 14 (.binOp .add 3 (.const (.int .i64 1536)) (.tmp 13) 3) 3, zz 15 (.binOp .mul 3 (.tmp 14) (.const (.int .i64 1048576)) 3) 3, zz 16 (.fieldAddr 27 (.tmp 1) 1) 0, zz 17 (.load 3 (.tmp 16)) 3, zz 18 (.binOp .add 3 (.tmp 15) (.tmp 17) 3) 3, zz 5 (.assign (.tmp 18)) 3] := by kernel_rfl
theorem ns83_5 : Region.noSelect (regOf Try.f83 5) = true := by kernel_rfl
theorem p83_5_0 : pj (regOf Try.f83 5) 0 = some (some 19, .build 209 #[], 209, none) := by kernel_rfl
theorem p83_5_2 : pj (regOf Try.f83 5) 2 = some (some 21, .move (.tmp 5), 3, none) := by kernel_rfl
theorem p83_5_5 : pj (regOf Try.f83 5) 5 = some (some 24, .fieldAddr 27 (.tmp 1) 2, 0, none) := by kernel_rfl
theorem p83_5_6 : pj (regOf Try.f83 5) 6 = some (some 25, .load 3 (.tmp 24), 3, none) := by kernel_rfl
theorem p83_5_9 : pj (regOf Try.f83 5) 9 = some (some 28, .fieldAddr 27 (.tmp 1) 3, 0, none) := by kernel_rfl
theorem p83_5_10 : pj (regOf Try.f83 5) 10 = some (some 29, .load 3 (.tmp 28), 3, none) := by kernel_rfl
theorem p83_5_11 : pj (regOf Try.f83 5) 11 = some (some 30, .fieldAddr 27 (.tmp 1) 4, 0, none) := by kernel_rfl
theorem p83_5_12 : pj (regOf Try.f83 5) 12 = some (some 31, .load 3 (.tmp 30), 3, none) := by kernel_rfl
theorem p83_5_1 : pj (regOf Try.f83 5) 1 = some (some 20, .box 209 (.tmp 19), 207, none) := by kernel_rfl
theorem p83_5_3 : pj (regOf Try.f83 5) 3 = some (some 22, .buildSlice 22 1 #[(0, .tmp 21)], 22, none) := by kernel_rfl
theorem p83_5_7 : pj (regOf Try.f83 5) 7 = some (some 26, .buildSlice 22 1 #[(0, .tmp 25)], 22, none) := by kernel_rfl
theorem p83_5_13 : pj (regOf Try.f83 5) 13 = some (some 32, .buildSlice 22 2 #[(0, .tmp 29), (1, .tmp 31)], 22, none) := by kernel_rfl
theorem p83_5_4 : pj (regOf Try.f83 5) 4 = some (some 23, .call { callee := .value (.func 124), args := #[.tmp 20, .const (.int .i64 4), .tmp 22], argTypes := #[207, 3, 22] }, 207, none) := by kernel_rfl
theorem cl124 : callable Try.f124 = true := by kernel_rfl
theorem p83_5_8 : pj (regOf Try.f83 5) 8 = some (some 27, .call { callee := .value (.func 124), args := #[.tmp 23, .const (.int .i64 2), .tmp 26], argTypes := #[207, 3, 22] }, 207, none) := by kernel_rfl
theorem p83_5_14 : pj (regOf Try.f83 5) 14 = some (some 33, .call { callee := .value (.func 124), args := #[.tmp 27, .const (.int .i64 1), .tmp 32], argTypes := #[207, 3, 22] }, 207, none) := by kernel_rfl
theorem p83_5_15 : pj (regOf Try.f83 5) 15 = some (some 6, .assign (.tmp 33), 207, none) := by kernel_rfl
theorem ns83_6 : Region.noSelect (regOf Try.f83 6) = true := by kernel_rfl
theorem p83_6_0 : pj (regOf Try.f83 6) 0 = some (some 34, .move (.tmp 6), 207, none) := by kernel_rfl
theorem p83_6_1 : pj (regOf Try.f83 6) 1 = some (some 35, .nilCheck (.tmp 34), 0, none) := by kernel_rfl
theorem p83_6_2 : pj (regOf Try.f83 6) 2 = some (some 36, .fieldAddr 209 (.tmp 35) 0, 0, none) := by kernel_rfl
theorem p83_6_3 : pj (regOf Try.f83 6) 3 = some (some 37, .load 33 (.tmp 36), 33, none) := by kernel_rfl
theorem p83_6_4 : pj (regOf Try.f83 6) 4 = some (some 38, .fieldAddr 27 (.tmp 1) 5, 0, none) := by kernel_rfl
theorem tS25 : (Try.prog.info? 25).map (·.size) = some 16 := by kernel_rfl
theorem p83_6_5 : pj (regOf Try.f83 6) 5 = some (some 39, .slice 25 (.tmp 38) none none none, 33, none) := by kernel_rfl
theorem tS5 : (Try.prog.info? 5).map (·.size) = some 1 := by kernel_rfl
theorem p83_6_6 : pj (regOf Try.f83 6) 6 = some (some 40, .fieldAddr 27 (.tmp 1) 6, 0, none) := by kernel_rfl
theorem p83_6_7 : pj (regOf Try.f83 6) 7 = some (some 41, .slice 25 (.tmp 40) none none none, 33, none) := by kernel_rfl
theorem p83_6_10 : pj (regOf Try.f83 6) 10 = some (some 44, .move (.tmp 6), 207, none) := by kernel_rfl
theorem p83_6_11 : pj (regOf Try.f83 6) 11 = some (some 45, .nilCheck (.tmp 44), 0, none) := by kernel_rfl
theorem p83_6_12 : pj (regOf Try.f83 6) 12 = some (some 46, .fieldAddr 209 (.tmp 45) 1, 0, none) := by kernel_rfl
theorem p83_6_13 : pj (regOf Try.f83 6) 13 = some (some 47, .load 36 (.tmp 46), 36, none) := by kernel_rfl
theorem p83_6_8 : pj (regOf Try.f83 6) 8 = some (some 42, .buildSlice 86 3 #[(0, .tmp 37), (1, .tmp 39), (2, .tmp 41)], 86, none) := by kernel_rfl
theorem p83_6_9 : pj (regOf Try.f83 6) 9 = some (some 43, .call { callee := .value (.func 70), args := #[.tmp 42], argTypes := #[86] }, 33, none) := by kernel_rfl
theorem cl70 : callable Try.f70 = true := by kernel_rfl
theorem p83_6_14 : pj (regOf Try.f83 6) 14 = some (some 2, .assign (.tmp 43), 33, none) := by kernel_rfl
theorem p83_6_15 : pj (regOf Try.f83 6) 15 = some (some 3, .assign (.tmp 47), 36, none) := by kernel_rfl
set_option maxHeartbeats 4000000 in
theorem enc_ok (c f l x h : Int) (s d : Nat → Int) (hok : okF c f l x h = true) (w : World) : Calls Try.prog 83 #[Value.agg (([Value.int .i64 c, Value.int .i64 f, Value.int .i64 l, Value.int .i64 x, Value.int .i64 h] ++ b16 s ++ b16 d)).toArray] w fun e w' => ∃ A c', e = .returned (.tuple #[.slice A 40 c', .int .i64 0]) ∧ w'.ownsRow w.heap.size 5 1 (.slice A 40 c') 40 (encs (Value.int .u8) (encF c f l x h s d)) ∧ Kp w w' (fun _ => False) := by
 have K_0 := Kp.refl w (fun _ => False)
 obtain ⟨hc, hf, hl, hx, hh⟩ := okF_of hok
 have hfxh : fitsF 1 [x, h] = true := fits1 (by intro y hy; simp at hy; omega)
 refine enter (args := [Value.agg (([Value.int .i64 c, Value.int .i64 f, Value.int .i64 l, Value.int .i64 x, Value.int .i64 h] ++ b16 s ++ b16 d)).toArray]) (n := 48) Try.func83 body83 rfl rfl rfl ?_
 intro a hE
 refine c_reg R83_0_l ?_
 refine p_cons (s_box (pl P83_0 0) hE wn_none rfl rfl ?_)
 clear hE a; intro g1 w2 z3 B_g1 hk a hE
 replace B_g1 : w2.heap[g1]? = some (.cells (([Value.int .i64 c, Value.int .i64 f, Value.int .i64 l, Value.int .i64 x, Value.int .i64 h] ++ b16 s ++ b16 d)).toArray 27 (0, 0)) := B_g1
 have z_0_g1 := Nat.le_trans K_0.kept.1 z3
 replace K_0 := K_0.then_ hk (fun _ h => h.elim)
 clear hk
 refine qn hE (rc (pl P83_0 1) (st_assign rfl) (rc (pl P83_0 2) (st_assign rfl) rn)) ?_; clear hE a; intro a hE
 refine p_nil (x_norm (wp_seq (c_reg R83_1_l ?_)))
 refine q0 (pl P83_1 0) hE (st_loadN (off := 0) (k := 37) (vs := ([Value.int .i64 c, Value.int .i64 f, Value.int .i64 l, Value.int .i64 x, Value.int .i64 h] ++ b16 s ++ b16 d)) tA27 tS27 rfl B_g1 rfl rfl) ?_; clear hE a; intro a hE
 refine p_cons (s_call (xs := [Operand.tmp 7]) (args := [Value.agg (([Value.int .i64 c, Value.int .i64 f, Value.int .i64 l, Value.int .i64 x, Value.int .i64 h] ++ b16 s ++ b16 d)).toArray]) (pl P83_1 1) hE wn_none rfl rfl Try.func82 cl82 (check_any c f l x h s d 0 (by rw [hok]; rfl) _) ?_)
 rintro e w4 ⟨rfl, hk⟩
 replace B_g1 := kp_blk B_g1 hk (fun h => h)
 replace K_0 := K_0.then_ hk (fun _ h => h.elim)
 refine ⟨_, rfl, ?_⟩; clear hE a; intro a hE
 refine q0 (pl P83_1 2) hE (st_assign rfl) ?_; clear hE a; intro a hE
 refine p_nil (x_norm (c_reg R83_2_l ?_))
 refine qn hE (rc (pl P83_2 0) (st_move rfl) (rc (pl P83_2 1) (st_neq (b := false) rfl rfl (by decide)) rn)) ?_; clear hE a; intro a hE
 refine p_nil (x_norm ?_)
 refine c_cond (t := false) hE rfl ?_
 refine wp_skip (x_norm (c_reg R83_4_l ?_))
 refine qn hE (rc (pl P83_4 0) (st_fieldAddr Try.underlying27 rfl tS3 rfl rfl) (rc (pl P83_4 1) (st_load1 tA3 rfl ((blk_cell B_g1 0).trans rfl)) (rc (pl P83_4 2) (st_add (z := 1536 + c) rfl rfl (wr_i64 _ (by omega) (by omega))) (rc (pl P83_4 3) (st_mul (z := (1536 + c) * 1048576) rfl rfl (wr_i64 _ (by omega) (by omega))) (rc (pl P83_4 4) (st_fieldAddr Try.underlying27 rfl tS3 rfl rfl) (rc (pl P83_4 5) (st_load1 tA3 rfl ((blk_cell B_g1 1).trans rfl)) (rc (pl P83_4 6) (st_add (z := ((1536 + c) * 1048576) + f) rfl rfl (wr_i64 _ (by omega) (by omega))) (rc (pl P83_4 7) (st_assign rfl) rn)))))))) ?_; clear hE a; intro a hE
 refine p_nil (x_norm ?_)
 refine c_drawMS (S := fun W => W.heap[g1]? = some (.cells (([Value.int .i64 c, Value.int .i64 f, Value.int .i64 l, Value.int .i64 x, Value.int .i64 h] ++ b16 s ++ b16 d)).toArray 27 (0, 0)) ∧ True) rfl rfl (listed := #[ι, ι, ι, ι, ι, ι, ι, ι, ι, ι, ι, ι, ι, ι, ι, ι]) rfl pan_body (fun QQ hQ hend => ?_)
 have dr5_22 : ∀ (A5_14 : Option Addr) (A5_4 : Option Addr) (A5_8 : Option Addr) (c5_14 : Nat) (c5_4 : Nat) (c5_8 : Nat) (g5_1 : Nat) (g5_13 : Nat) (g5_3 : Nat) (g5_7 : Nat) (W : World) (a : Act), En 48 a [(0, Value.agg (([Value.int .i64 c, Value.int .i64 f, Value.int .i64 l, Value.int .i64 x, Value.int .i64 h] ++ b16 s ++ b16 d)).toArray), (1, Value.pointer (some ⟨g1, 0, none⟩)), (2, Value.slice none 0 0), (3, Value.int .i64 0), (4, Value.int .i64 0), (5, Value.int .i64 (((1536 + c) * 1048576) + f)), (6, Value.pointer (some ⟨g5_1, 0, none⟩)), (10, Value.bool false), (19, Value.agg #[Value.slice none 0 0, Value.int .i64 0]), (20, Value.pointer (some ⟨g5_1, 0, none⟩)), (21, Value.int .i64 (((1536 + c) * 1048576) + f)), (22, Value.slice (some ⟨g5_3, 0, none⟩) 1 1), (23, Value.pointer (some ⟨g5_1, 0, none⟩)), (24, Value.pointer (some ⟨g1, 2, none⟩)), (25, Value.int .i64 l), (26, Value.slice (some ⟨g5_7, 0, none⟩) 1 1), (27, Value.pointer (some ⟨g5_1, 0, none⟩)), (28, Value.pointer (some ⟨g1, 3, none⟩)), (29, Value.int .i64 x), (30, Value.pointer (some ⟨g1, 4, none⟩)), (31, Value.int .i64 h), (32, Value.slice (some ⟨g5_13, 0, none⟩) 2 2), (33, Value.pointer (some ⟨g5_1, 0, none⟩))] → W.heap[g1]? = some (.cells (([Value.int .i64 c, Value.int .i64 f, Value.int .i64 l, Value.int .i64 x, Value.int .i64 h] ++ b16 s ++ b16 d)).toArray 27 (0, 0)) → W.heap[g5_3]? = some (.cells #[Value.int .i64 (((1536 + c) * 1048576) + f)] 3 (0, 0)) → W.heap[g5_1]? = some (.cells #[Value.slice A5_14 ((((putF 4 [((1536 + c) * 1048576) + f]) ++ putF 2 [l]) ++ putF 1 [x, h]).length) c5_14, Value.int .i64 0] 209 (0, 0)) → W.heap[g5_7]? = some (.cells #[Value.int .i64 l] 3 (0, 0)) → W.heap[g5_13]? = some (.cells #[Value.int .i64 x, Value.int .i64 h] 3 (0, 0)) → g1 ≠ g5_1 → g1 ≠ g5_13 → g1 ≠ g5_3 → g1 ≠ g5_7 → g5_1 ≠ g5_13 → g5_1 ≠ g5_3 → g5_1 ≠ g5_7 → g5_13 ≠ g5_3 → g5_13 ≠ g5_7 → g5_3 ≠ g5_7 → w.heap.size ≤ g5_1 → w.heap.size ≤ g5_13 → w.heap.size ≤ g5_3 → w.heap.size ≤ g5_7 → ¬ OB A5_14 g1 → ¬ OB A5_14 g5_3 → ¬ OB A5_14 g5_1 → ¬ OB A5_14 g5_7 → ¬ OB A5_14 g5_13 → (∀ k, OB A5_14 k → (fun _ => False) k ∨ w.heap.size ≤ k) → W.ownsRow w.heap.size 5 1 (.slice A5_14 ((((putF 4 [((1536 + c) * 1048576) + f]) ++ putF 2 [l]) ++ putF 1 [x, h]).length) c5_14) ((((putF 4 [((1536 + c) * 1048576) + f]) ++ putF 2 [l]) ++ putF 1 [x, h]).length) (encs (Value.int .u8) (((putF 4 [((1536 + c) * 1048576) + f]) ++ putF 2 [l]) ++ putF 1 [x, h])) → Kp w W (fun _ => False) → wpAnyH Try.prog .any (regOf Try.f83 5) QQ (fun W => W.heap[g1]? = some (.cells (([Value.int .i64 c, Value.int .i64 f, Value.int .i64 l, Value.int .i64 x, Value.int .i64 h] ++ b16 s ++ b16 d)).toArray 27 (0, 0)) ∧ True) 0 #[κ, κ, κ, κ, κ, κ, κ, κ, κ, κ, κ, κ, κ, κ, κ, κ] a W := by
  intro A5_14 A5_4 A5_8 c5_14 c5_4 c5_8 g5_1 g5_13 g5_3 g5_7 w87 a hE B_g1 B_g5_3 B_g5_1 B_g5_7 B_g5_13 n_g1_g5_1 n_g1_g5_13 n_g1_g5_3 n_g1_g5_7 n_g5_1_g5_13 n_g5_1_g5_3 n_g5_1_g5_7 n_g5_13_g5_3 n_g5_13_g5_7 n_g5_3_g5_7 z_0_g5_1 z_0_g5_13 z_0_g5_3 z_0_g5_7 Nb_q5_14_g1 Nb_q5_14_g5_3 Nb_q5_14_g5_1 Nb_q5_14_g5_7 Nb_q5_14_g5_13 Z_0_q5_14 O_q5_14 K_0
  refine d_end (by kernel_rfl) (hend _ _ ?_)
  refine c_drawS (S := fun W => W.heap[g1]? = some (.cells (([Value.int .i64 c, Value.int .i64 f, Value.int .i64 l, Value.int .i64 x, Value.int .i64 h] ++ b16 s ++ b16 d)).toArray 27 (0, 0)) ∧ W.heap[g5_3]? = some (.cells #[Value.int .i64 (((1536 + c) * 1048576) + f)] 3 (0, 0)) ∧ W.heap[g5_1]? = some (.cells #[Value.slice A5_14 ((((putF 4 [((1536 + c) * 1048576) + f]) ++ putF 2 [l]) ++ putF 1 [x, h]).length) c5_14, Value.int .i64 0] 209 (0, 0)) ∧ W.heap[g5_7]? = some (.cells #[Value.int .i64 l] 3 (0, 0)) ∧ W.heap[g5_13]? = some (.cells #[Value.int .i64 x, Value.int .i64 h] 3 (0, 0)) ∧ True) rfl rfl (listed := #[ι, ι, ι, ι, ι, ι, ι, ι, ι, ι, ι, ι, ι, ι, ι, ι]) rfl ?_
  intro w88 hh hk
  replace B_g1 := kp_blk B_g1 hk (fun h => h)
  replace B_g5_3 := kp_blk B_g5_3 hk (fun h => h)
  replace B_g5_1 := kp_blk B_g5_1 hk (fun h => h)
  replace B_g5_7 := kp_blk B_g5_7 hk (fun h => h)
  replace B_g5_13 := kp_blk B_g5_13 hk (fun h => h)
  replace O_q5_14 := own_keep O_q5_14 hk (fun _ _ h => h)
  replace K_0 := K_0.then_ hk (fun _ h => h.elim)
  clear hh hk
  have hS9 : w88.heap[g1]? = some (.cells (([Value.int .i64 c, Value.int .i64 f, Value.int .i64 l, Value.int .i64 x, Value.int .i64 h] ++ b16 s ++ b16 d)).toArray 27 (0, 0)) ∧ w88.heap[g5_3]? = some (.cells #[Value.int .i64 (((1536 + c) * 1048576) + f)] 3 (0, 0)) ∧ w88.heap[g5_1]? = some (.cells #[Value.slice A5_14 ((((putF 4 [((1536 + c) * 1048576) + f]) ++ putF 2 [l]) ++ putF 1 [x, h]).length) c5_14, Value.int .i64 0] 209 (0, 0)) ∧ w88.heap[g5_7]? = some (.cells #[Value.int .i64 l] 3 (0, 0)) ∧ w88.heap[g5_13]? = some (.cells #[Value.int .i64 x, Value.int .i64 h] 3 (0, 0)) ∧ True := ⟨B_g1, B_g5_3, B_g5_1, B_g5_7, B_g5_13, trivial⟩
  refine Rv.dq (v := Value.pointer (some ⟨g5_1, 0, none⟩)) p83_6_0 ns83_6 hE wn_none hS9 (fun W hS => (st_move rfl)) ?_; clear hE a; intro a hE
  refine Rv.dq (v := Value.pointer (some ⟨g5_1, 0, none⟩)) p83_6_1 ns83_6 hE wn_none hS9 (fun W hS => (st_nil rfl)) ?_; clear hE a; intro a hE
  refine Rv.dq (v := Value.pointer (some ⟨g5_1, 0, none⟩)) p83_6_2 ns83_6 hE wn_none hS9 (fun W hS => (st_fieldAddr Try.underlying209 rfl tS33 rfl rfl)) ?_; clear hE a; intro a hE
  refine Rv.dq (v := Value.slice A5_14 ((((putF 4 [((1536 + c) * 1048576) + f]) ++ putF 2 [l]) ++ putF 1 [x, h]).length) c5_14) p83_6_3 ns83_6 hE wn_none hS9 (fun W hS => (st_load1 tA33 rfl ((blk_cell hS.2.2.1 0).trans rfl))) ?_; clear hE a; intro a hE
  refine Rv.dq (v := Value.pointer (some ⟨g1, 5, none⟩)) p83_6_4 ns83_6 hE wn_none hS9 (fun W hS => (st_fieldAddr Try.underlying27 rfl tS25 rfl rfl)) ?_; clear hE a; intro a hE
  refine Rv.dq (v := Value.slice (some ⟨g1, 5, none⟩) 16 16) p83_6_5 ns83_6 hE wn_none hS9 (fun W hS => (st_sliceA Try.underlying25 tS5 rfl)) ?_; clear hE a; intro a hE
  refine Rv.dq (v := Value.pointer (some ⟨g1, 21, none⟩)) p83_6_6 ns83_6 hE wn_none hS9 (fun W hS => (st_fieldAddr Try.underlying27 rfl tS25 rfl rfl)) ?_; clear hE a; intro a hE
  refine Rv.dq (v := Value.slice (some ⟨g1, 21, none⟩) 16 16) p83_6_7 ns83_6 hE wn_none hS9 (fun W hS => (st_sliceA Try.underlying25 tS5 rfl)) ?_; clear hE a; intro a hE
  refine Rv.dq (v := Value.pointer (some ⟨g5_1, 0, none⟩)) p83_6_10 ns83_6 hE wn_none hS9 (fun W hS => (st_move rfl)) ?_; clear hE a; intro a hE
  refine Rv.dq (v := Value.pointer (some ⟨g5_1, 0, none⟩)) p83_6_11 ns83_6 hE wn_none hS9 (fun W hS => (st_nil rfl)) ?_; clear hE a; intro a hE
  refine Rv.dq (v := Value.pointer (some ⟨g5_1, 1, none⟩)) p83_6_12 ns83_6 hE wn_none hS9 (fun W hS => (st_fieldAddr Try.underlying209 rfl tS36 rfl rfl)) ?_; clear hE a; intro a hE
  refine Rv.dq (v := Value.int .i64 0) p83_6_13 ns83_6 hE wn_none hS9 (fun W hS => (st_load1 tA36 rfl ((blk_cell hS.2.2.1 1).trans rfl))) ?_; clear hE a; intro a hE
  refine d_one (by kernel_rfl) rfl (s_row (xs := [(0, Operand.tmp 37), (1, Operand.tmp 39), (2, Operand.tmp 41)]) (vs := [(0, Value.slice A5_14 ((((putF 4 [((1536 + c) * 1048576) + f]) ++ putF 2 [l]) ++ putF 1 [x, h]).length) c5_14), (1, Value.slice (some ⟨g1, 5, none⟩) 16 16), (2, Value.slice (some ⟨g1, 21, none⟩) 16 16)]) (cs := #[Value.slice A5_14 ((((putF 4 [((1536 + c) * 1048576) + f]) ++ putF 2 [l]) ++ putF 1 [x, h]).length) c5_14, Value.slice (some ⟨g1, 5, none⟩) 16 16, Value.slice (some ⟨g1, 21, none⟩) 16 16]) p83_6_8 hE wn_none rfl Try.underlying86 rfl (by kernel_rfl) ?_)
  clear hE a; intro g89 w90 z91 B_g89 hk a hE
  have n_g1_g89 : g1 ≠ g89 := ne_new B_g1 z91
  have n_g5_3_g89 : g5_3 ≠ g89 := ne_new B_g5_3 z91
  have n_g5_1_g89 : g5_1 ≠ g89 := ne_new B_g5_1 z91
  have n_g5_7_g89 : g5_7 ≠ g89 := ne_new B_g5_7 z91
  have n_g5_13_g89 : g5_13 ≠ g89 := ne_new B_g5_13 z91
  have z_0_g89 := Nat.le_trans K_0.kept.1 z91
  have Nb_q5_14_g89 : ¬ OB A5_14 g89 := fun h => by have := (own_ob O_q5_14 h).2; omega
  replace B_g1 := kp_blk B_g1 hk (fun h => h)
  replace B_g5_3 := kp_blk B_g5_3 hk (fun h => h)
  replace B_g5_1 := kp_blk B_g5_1 hk (fun h => h)
  replace B_g5_7 := kp_blk B_g5_7 hk (fun h => h)
  replace B_g5_13 := kp_blk B_g5_13 hk (fun h => h)
  replace O_q5_14 := own_keep O_q5_14 hk (fun _ _ h => h)
  replace K_0 := K_0.then_ hk (fun _ h => h.elim)
  clear hk
  refine ⟨⟨B_g1, B_g5_3, B_g5_1, B_g5_7, B_g5_13, trivial⟩, ?_⟩
  have hnb_g1 := blk_lt B_g1
  have hnb_g5_3 := blk_lt B_g5_3
  have hnb_g5_1 := blk_lt B_g5_1
  have hnb_g5_7 := blk_lt B_g5_7
  have hnb_g5_13 := blk_lt B_g5_13
  have hnb_g89 := blk_lt B_g89
  have hnz_0 := K_0.kept.1
  have hno_q5_14 := fun k (h : OB A5_14 k) => (own_ob O_q5_14 h).2
  have hrows := C_rows (e := 5) [(A5_14, c5_14, (((putF 4 [((1536 + c) * 1048576) + f]) ++ putF 2 [l]) ++ putF 1 [x, h])), (some ⟨g1, 5, none⟩, 16, l16 s), (some ⟨g1, 21, none⟩, 16, l16 d)] B_g89 rfl (Nat.le_of_ble_eq_true rfl) (by intro r hr; simp only [List.mem_cons, List.not_mem_nil, or_false] at hr; rcases hr with rfl | rfl | rfl; exact ⟨(own_caps O_q5_14).1, (own_told O_q5_14)⟩; exact ⟨Nat.le_of_ble_eq_true rfl, C_blk (k := .u8) (l := l16 s) (off := 5) B_g1 ⟨rfl, Nat.le_of_ble_eq_true rfl⟩ rfl⟩; exact ⟨Nat.le_of_ble_eq_true rfl, C_blk (k := .u8) (l := l16 d) (off := 21) B_g1 ⟨rfl, Nat.le_of_ble_eq_true rfl⟩ rfl⟩)
  refine d_one (by kernel_rfl) rfl (s_call (xs := [Operand.tmp 42]) (args := [Value.slice (some ⟨g89, 0, none⟩) 3 3]) p83_6_9 hE wn_none rfl rfl Try.func70 cl70 (concat_any (some ⟨g89, 0, none⟩) 3 3 [putF 4 [(1536 + c) * 1048576 + f] ++ putF 2 [l] ++ putF 1 [x, h], l16 s, l16 d] rfl _ hrows (Nat.le_of_ble_eq_true rfl) (Nat.le_of_ble_eq_true rfl) (Nat.le_of_ble_eq_true rfl)) ?_)
  rintro e w95 ⟨A92, c93, rfl, O_q94, hk⟩
  replace B_g1 := kp_blk B_g1 hk (fun h => h)
  replace B_g5_3 := kp_blk B_g5_3 hk (fun h => h)
  replace B_g5_1 := kp_blk B_g5_1 hk (fun h => h)
  replace B_g5_7 := kp_blk B_g5_7 hk (fun h => h)
  replace B_g5_13 := kp_blk B_g5_13 hk (fun h => h)
  replace B_g89 := kp_blk B_g89 hk (fun h => h)
  replace O_q5_14 := own_keep O_q5_14 hk (fun _ _ h => h)
  replace K_0 := K_0.then_ hk (fun _ h => h.elim)
  have Nb_q94_g1 : ¬ OB A92 g1 := fun h => by have := (own_ob O_q94 h).1; have := hnb_g1; omega
  have Nb_q94_g5_3 : ¬ OB A92 g5_3 := fun h => by have := (own_ob O_q94 h).1; have := hnb_g5_3; omega
  have Nb_q94_g5_1 : ¬ OB A92 g5_1 := fun h => by have := (own_ob O_q94 h).1; have := hnb_g5_1; omega
  have Nb_q94_g5_7 : ¬ OB A92 g5_7 := fun h => by have := (own_ob O_q94 h).1; have := hnb_g5_7; omega
  have Nb_q94_g5_13 : ¬ OB A92 g5_13 := fun h => by have := (own_ob O_q94 h).1; have := hnb_g5_13; omega
  have Nb_q94_g89 : ¬ OB A92 g89 := fun h => by have := (own_ob O_q94 h).1; have := hnb_g89; omega
  have Z_0_q94 : ∀ k, OB A92 k → (fun _ => False) k ∨ w.heap.size ≤ k := fun k h => .inr (by have := (own_ob O_q94 h).1; have := hnz_0; omega)
  have NN_q94_q5_14 : ∀ k, OB A92 k → ¬ OB A5_14 k := fun k h h2 => by have := (own_ob O_q94 h).1; have := hno_q5_14 k h2; omega
  have NN_q5_14_q94 : ∀ k, OB A5_14 k → ¬ OB A92 k := fun k h h2 => NN_q94_q5_14 k h2 h
  replace O_q94 := own_lower O_q94 hnz_0
  refine ⟨_, rfl, ?_⟩; clear hE a; intro a hE
  refine ⟨⟨B_g1, B_g5_3, B_g5_1, B_g5_7, B_g5_13, trivial⟩, ?_⟩
  have hS9 : w95.heap[g1]? = some (.cells (([Value.int .i64 c, Value.int .i64 f, Value.int .i64 l, Value.int .i64 x, Value.int .i64 h] ++ b16 s ++ b16 d)).toArray 27 (0, 0)) ∧ w95.heap[g5_3]? = some (.cells #[Value.int .i64 (((1536 + c) * 1048576) + f)] 3 (0, 0)) ∧ w95.heap[g5_1]? = some (.cells #[Value.slice A5_14 ((((putF 4 [((1536 + c) * 1048576) + f]) ++ putF 2 [l]) ++ putF 1 [x, h]).length) c5_14, Value.int .i64 0] 209 (0, 0)) ∧ w95.heap[g5_7]? = some (.cells #[Value.int .i64 l] 3 (0, 0)) ∧ w95.heap[g5_13]? = some (.cells #[Value.int .i64 x, Value.int .i64 h] 3 (0, 0)) ∧ True := ⟨B_g1, B_g5_3, B_g5_1, B_g5_7, B_g5_13, trivial⟩
  refine Rv.dq (v := Value.slice A92 40 c93) p83_6_14 ns83_6 hE wn_none hS9 (fun W hS => (st_assign rfl)) ?_; clear hE a; intro a hE
  refine Rv.dq (v := Value.int .i64 0) p83_6_15 ns83_6 hE wn_none hS9 (fun W hS => (st_assign rfl)) ?_; clear hE a; intro a hE
  refine d_end (by kernel_rfl) ?_
  refine x_norm (wp_ret ?_)
  refine ret_list (rs := [.tmp 2, .tmp 3]) (vs := [Value.slice A92 40 c93, Value.int .i64 0]) rfl hE (.tmp rfl (.tmp rfl .nil)) rfl ?_
  exact ⟨_, _, rfl, O_q94, K_0⟩
 have dr5_21 : ∀ (A5_4 : Option Addr) (A5_8 : Option Addr) (c5_4 : Nat) (c5_8 : Nat) (g5_1 : Nat) (g5_13 : Nat) (g5_3 : Nat) (g5_7 : Nat) (W : World) (a : Act), En 48 a [(0, Value.agg (([Value.int .i64 c, Value.int .i64 f, Value.int .i64 l, Value.int .i64 x, Value.int .i64 h] ++ b16 s ++ b16 d)).toArray), (1, Value.pointer (some ⟨g1, 0, none⟩)), (2, Value.slice none 0 0), (3, Value.int .i64 0), (4, Value.int .i64 0), (5, Value.int .i64 (((1536 + c) * 1048576) + f)), (10, Value.bool false), (19, Value.agg #[Value.slice none 0 0, Value.int .i64 0]), (20, Value.pointer (some ⟨g5_1, 0, none⟩)), (21, Value.int .i64 (((1536 + c) * 1048576) + f)), (22, Value.slice (some ⟨g5_3, 0, none⟩) 1 1), (23, Value.pointer (some ⟨g5_1, 0, none⟩)), (24, Value.pointer (some ⟨g1, 2, none⟩)), (25, Value.int .i64 l), (26, Value.slice (some ⟨g5_7, 0, none⟩) 1 1), (27, Value.pointer (some ⟨g5_1, 0, none⟩)), (28, Value.pointer (some ⟨g1, 3, none⟩)), (29, Value.int .i64 x), (30, Value.pointer (some ⟨g1, 4, none⟩)), (31, Value.int .i64 h), (32, Value.slice (some ⟨g5_13, 0, none⟩) 2 2)] → W.heap[g1]? = some (.cells (([Value.int .i64 c, Value.int .i64 f, Value.int .i64 l, Value.int .i64 x, Value.int .i64 h] ++ b16 s ++ b16 d)).toArray 27 (0, 0)) → W.heap[g5_3]? = some (.cells #[Value.int .i64 (((1536 + c) * 1048576) + f)] 3 (0, 0)) → W.heap[g5_1]? = some (.cells #[Value.slice A5_8 (((putF 4 [((1536 + c) * 1048576) + f]) ++ putF 2 [l]).length) c5_8, Value.int .i64 0] 209 (0, 0)) → W.heap[g5_7]? = some (.cells #[Value.int .i64 l] 3 (0, 0)) → W.heap[g5_13]? = some (.cells #[Value.int .i64 x, Value.int .i64 h] 3 (0, 0)) → g1 ≠ g5_1 → g1 ≠ g5_13 → g1 ≠ g5_3 → g1 ≠ g5_7 → g5_1 ≠ g5_13 → g5_1 ≠ g5_3 → g5_1 ≠ g5_7 → g5_13 ≠ g5_3 → g5_13 ≠ g5_7 → g5_3 ≠ g5_7 → w.heap.size ≤ g5_1 → w.heap.size ≤ g5_13 → w.heap.size ≤ g5_3 → w.heap.size ≤ g5_7 → ¬ OB A5_8 g1 → ¬ OB A5_8 g5_3 → ¬ OB A5_8 g5_1 → ¬ OB A5_8 g5_7 → ¬ OB A5_8 g5_13 → (∀ k, OB A5_8 k → (fun _ => False) k ∨ w.heap.size ≤ k) → W.ownsRow w.heap.size 5 1 (.slice A5_8 (((putF 4 [((1536 + c) * 1048576) + f]) ++ putF 2 [l]).length) c5_8) (((putF 4 [((1536 + c) * 1048576) + f]) ++ putF 2 [l]).length) (encs (Value.int .u8) ((putF 4 [((1536 + c) * 1048576) + f]) ++ putF 2 [l])) → Kp w W (fun _ => False) → wpAnyH Try.prog .any (regOf Try.f83 5) QQ (fun W => W.heap[g1]? = some (.cells (([Value.int .i64 c, Value.int .i64 f, Value.int .i64 l, Value.int .i64 x, Value.int .i64 h] ++ b16 s ++ b16 d)).toArray 27 (0, 0)) ∧ True) 2 #[κ, κ, κ, κ, κ, κ, κ, κ, κ, κ, κ, κ, κ, κ, ι, ι] a W := by
  intro A5_4 A5_8 c5_4 c5_8 g5_1 g5_13 g5_3 g5_7 w96 a hE B_g1 B_g5_3 B_g5_1 B_g5_7 B_g5_13 n_g1_g5_1 n_g1_g5_13 n_g1_g5_3 n_g1_g5_7 n_g5_1_g5_13 n_g5_1_g5_3 n_g5_1_g5_7 n_g5_13_g5_3 n_g5_13_g5_7 n_g5_3_g5_7 z_0_g5_1 z_0_g5_13 z_0_g5_3 z_0_g5_7 Nb_q5_8_g1 Nb_q5_8_g5_3 Nb_q5_8_g5_1 Nb_q5_8_g5_7 Nb_q5_8_g5_13 Z_0_q5_8 O_q5_8 K_0
  refine d_all (rs := [14]) (by kernel_rfl) rfl ?_
  refine all_cons (d_lit (listed' := #[κ, κ, κ, κ, κ, κ, κ, κ, κ, κ, κ, κ, κ, κ, κ, ι]) rfl ?_) ?_
  ·
   have hnb_g1 := blk_lt B_g1
   have hnb_g5_3 := blk_lt B_g5_3
   have hnb_g5_1 := blk_lt B_g5_1
   have hnb_g5_7 := blk_lt B_g5_7
   have hnb_g5_13 := blk_lt B_g5_13
   have hnz_0 := K_0.kept.1
   have hno_q5_8 := fun k (h : OB A5_8 k) => (own_ob O_q5_8 h).2
   refine (s_call (xs := [Operand.tmp 27, Operand.const (Value.int IntKind.i64 1), Operand.tmp 32]) (args := [Value.pointer (some ⟨g5_1, 0, none⟩), Value.int .i64 1, Value.slice (some ⟨g5_13, 0, none⟩) 2 2]) p83_5_14 hE wn_none rfl rfl Try.func124 cl124 (chain_put g5_1 A5_8 (some ⟨g5_13, 0, none⟩) c5_8 2 1 ((putF 4 [((1536 + c) * 1048576) + f]) ++ putF 2 [l]) ([x, h]) _ B_g5_1 (fun W hk => own_told (own_keep O_q5_8 hk (fun k h h2 => Nb_q5_8_g5_1 (by rw [show k = g5_1 from h2] at h; exact h)))) (fun W hk => C_blk (k := .i64) (l := [x, h]) (kp_blk B_g5_13 hk (Ne.symm n_g5_1_g5_13)) ⟨rfl, Nat.le_of_ble_eq_true rfl⟩ rfl) (Nat.le_of_ble_eq_true rfl) hfxh (Nat.le_of_ble_eq_true rfl)) ?_)
   rintro e w97 ⟨A5_14, c5_14, rfl, B_g5_1', O_q5_14, hk⟩
   replace B_g1 := kp_blk B_g1 hk n_g1_g5_1
   replace B_g5_3 := kp_blk B_g5_3 hk (Ne.symm n_g5_1_g5_3)
   replace B_g5_7 := kp_blk B_g5_7 hk (Ne.symm n_g5_1_g5_7)
   replace B_g5_13 := kp_blk B_g5_13 hk (Ne.symm n_g5_1_g5_13)
   replace O_q5_8 := own_keep O_q5_8 hk (fun k hk2 h2 => Nb_q5_8_g5_1 (by rw [show k = g5_1 from h2] at hk2; exact hk2))
   replace K_0 := K_0.then_ hk (fun k h => by rw [show k = g5_1 from h]; exact Or.inr z_0_g5_1)
   have Nb_q5_14_g1 : ¬ OB A5_14 g1 := fun h => by have := (own_ob O_q5_14 h).1; have := hnb_g1; omega
   have Nb_q5_14_g5_3 : ¬ OB A5_14 g5_3 := fun h => by have := (own_ob O_q5_14 h).1; have := hnb_g5_3; omega
   have Nb_q5_14_g5_1 : ¬ OB A5_14 g5_1 := fun h => by have := (own_ob O_q5_14 h).1; have := hnb_g5_1; omega
   have Nb_q5_14_g5_7 : ¬ OB A5_14 g5_7 := fun h => by have := (own_ob O_q5_14 h).1; have := hnb_g5_7; omega
   have Nb_q5_14_g5_13 : ¬ OB A5_14 g5_13 := fun h => by have := (own_ob O_q5_14 h).1; have := hnb_g5_13; omega
   have Z_0_q5_14 : ∀ k, OB A5_14 k → (fun _ => False) k ∨ w.heap.size ≤ k := fun k h => .inr (by have := (own_ob O_q5_14 h).1; have := hnz_0; omega)
   have NN_q5_14_q5_8 : ∀ k, OB A5_14 k → ¬ OB A5_8 k := fun k h h2 => by have := (own_ob O_q5_14 h).1; have := hno_q5_8 k h2; omega
   have NN_q5_8_q5_14 : ∀ k, OB A5_8 k → ¬ OB A5_14 k := fun k h h2 => NN_q5_14_q5_8 k h2 h
   replace O_q5_14 := own_lower O_q5_14 hnz_0
   replace B_g5_1 := B_g5_1'
   refine ⟨_, rfl, ?_⟩; clear hE a; intro a hE
   refine ⟨⟨B_g1, trivial⟩, ?_⟩
   refine Rv.dq (listed' := #[κ, κ, κ, κ, κ, κ, κ, κ, κ, κ, κ, κ, κ, κ, κ, κ]) (v := Value.pointer (some ⟨g5_1, 0, none⟩)) p83_5_15 ns83_5 hE wn_none ⟨B_g1, trivial⟩ (fun W hS => (st_assign rfl)) ?_ (fun c a w h => hQ c a _ _ w h); clear hE a; intro a hE
   exact dr5_22 A5_14 A5_4 A5_8 c5_14 c5_4 c5_8 g5_1 g5_13 g5_3 g5_7 _ a (En.sub hE ⟨rfl, rfl, rfl, rfl, rfl, rfl, rfl, rfl, rfl, rfl, rfl, rfl, rfl, rfl, rfl, rfl, rfl, rfl, rfl, rfl, rfl, rfl, rfl, trivial⟩) B_g1 B_g5_3 B_g5_1 B_g5_7 B_g5_13 n_g1_g5_1 n_g1_g5_13 n_g1_g5_3 n_g1_g5_7 n_g5_1_g5_13 n_g5_1_g5_3 n_g5_1_g5_7 n_g5_13_g5_3 n_g5_13_g5_7 n_g5_3_g5_7 z_0_g5_1 z_0_g5_13 z_0_g5_3 z_0_g5_7 Nb_q5_14_g1 Nb_q5_14_g5_3 Nb_q5_14_g5_1 Nb_q5_14_g5_7 Nb_q5_14_g5_13 Z_0_q5_14 O_q5_14 K_0
  exact all_nil
 have dr5_20 : ∀ (A5_4 : Option Addr) (A5_8 : Option Addr) (c5_4 : Nat) (c5_8 : Nat) (g5_1 : Nat) (g5_3 : Nat) (g5_7 : Nat) (W : World) (a : Act), En 48 a [(0, Value.agg (([Value.int .i64 c, Value.int .i64 f, Value.int .i64 l, Value.int .i64 x, Value.int .i64 h] ++ b16 s ++ b16 d)).toArray), (1, Value.pointer (some ⟨g1, 0, none⟩)), (2, Value.slice none 0 0), (3, Value.int .i64 0), (4, Value.int .i64 0), (5, Value.int .i64 (((1536 + c) * 1048576) + f)), (10, Value.bool false), (19, Value.agg #[Value.slice none 0 0, Value.int .i64 0]), (20, Value.pointer (some ⟨g5_1, 0, none⟩)), (21, Value.int .i64 (((1536 + c) * 1048576) + f)), (22, Value.slice (some ⟨g5_3, 0, none⟩) 1 1), (23, Value.pointer (some ⟨g5_1, 0, none⟩)), (24, Value.pointer (some ⟨g1, 2, none⟩)), (25, Value.int .i64 l), (26, Value.slice (some ⟨g5_7, 0, none⟩) 1 1), (27, Value.pointer (some ⟨g5_1, 0, none⟩)), (28, Value.pointer (some ⟨g1, 3, none⟩)), (29, Value.int .i64 x), (30, Value.pointer (some ⟨g1, 4, none⟩)), (31, Value.int .i64 h)] → W.heap[g1]? = some (.cells (([Value.int .i64 c, Value.int .i64 f, Value.int .i64 l, Value.int .i64 x, Value.int .i64 h] ++ b16 s ++ b16 d)).toArray 27 (0, 0)) → W.heap[g5_3]? = some (.cells #[Value.int .i64 (((1536 + c) * 1048576) + f)] 3 (0, 0)) → W.heap[g5_1]? = some (.cells #[Value.slice A5_8 (((putF 4 [((1536 + c) * 1048576) + f]) ++ putF 2 [l]).length) c5_8, Value.int .i64 0] 209 (0, 0)) → W.heap[g5_7]? = some (.cells #[Value.int .i64 l] 3 (0, 0)) → g1 ≠ g5_1 → g1 ≠ g5_3 → g1 ≠ g5_7 → g5_1 ≠ g5_3 → g5_1 ≠ g5_7 → g5_3 ≠ g5_7 → w.heap.size ≤ g5_1 → w.heap.size ≤ g5_3 → w.heap.size ≤ g5_7 → ¬ OB A5_8 g1 → ¬ OB A5_8 g5_3 → ¬ OB A5_8 g5_1 → ¬ OB A5_8 g5_7 → (∀ k, OB A5_8 k → (fun _ => False) k ∨ w.heap.size ≤ k) → W.ownsRow w.heap.size 5 1 (.slice A5_8 (((putF 4 [((1536 + c) * 1048576) + f]) ++ putF 2 [l]).length) c5_8) (((putF 4 [((1536 + c) * 1048576) + f]) ++ putF 2 [l]).length) (encs (Value.int .u8) ((putF 4 [((1536 + c) * 1048576) + f]) ++ putF 2 [l])) → Kp w W (fun _ => False) → wpAnyH Try.prog .any (regOf Try.f83 5) QQ (fun W => W.heap[g1]? = some (.cells (([Value.int .i64 c, Value.int .i64 f, Value.int .i64 l, Value.int .i64 x, Value.int .i64 h] ++ b16 s ++ b16 d)).toArray 27 (0, 0)) ∧ True) 3 #[κ, κ, κ, κ, κ, κ, κ, κ, κ, κ, κ, κ, κ, ι, ι, ι] a W := by
  intro A5_4 A5_8 c5_4 c5_8 g5_1 g5_3 g5_7 w98 a hE B_g1 B_g5_3 B_g5_1 B_g5_7 n_g1_g5_1 n_g1_g5_3 n_g1_g5_7 n_g5_1_g5_3 n_g5_1_g5_7 n_g5_3_g5_7 z_0_g5_1 z_0_g5_3 z_0_g5_7 Nb_q5_8_g1 Nb_q5_8_g5_3 Nb_q5_8_g5_1 Nb_q5_8_g5_7 Z_0_q5_8 O_q5_8 K_0
  refine d_all (rs := [13]) (by kernel_rfl) rfl ?_
  refine all_cons (d_lit (listed' := #[κ, κ, κ, κ, κ, κ, κ, κ, κ, κ, κ, κ, κ, κ, ι, ι]) rfl ?_) ?_
  ·
   refine (s_row (xs := [(0, Operand.tmp 29), (1, Operand.tmp 31)]) (vs := [(0, Value.int .i64 x), (1, Value.int .i64 h)]) (cs := #[Value.int .i64 x, Value.int .i64 h]) p83_5_13 hE wn_none rfl Try.underlying22 rfl (by kernel_rfl) ?_)
   clear hE a; intro g5_13 w99 z100 B_g5_13 hk a hE
   have n_g1_g5_13 : g1 ≠ g5_13 := ne_new B_g1 z100
   have n_g5_3_g5_13 : g5_3 ≠ g5_13 := ne_new B_g5_3 z100
   have n_g5_1_g5_13 : g5_1 ≠ g5_13 := ne_new B_g5_1 z100
   have n_g5_7_g5_13 : g5_7 ≠ g5_13 := ne_new B_g5_7 z100
   have z_0_g5_13 := Nat.le_trans K_0.kept.1 z100
   have Nb_q5_8_g5_13 : ¬ OB A5_8 g5_13 := fun h => by have := (own_ob O_q5_8 h).2; omega
   replace B_g1 := kp_blk B_g1 hk (fun h => h)
   replace B_g5_3 := kp_blk B_g5_3 hk (fun h => h)
   replace B_g5_1 := kp_blk B_g5_1 hk (fun h => h)
   replace B_g5_7 := kp_blk B_g5_7 hk (fun h => h)
   replace O_q5_8 := own_keep O_q5_8 hk (fun _ _ h => h)
   replace K_0 := K_0.then_ hk (fun _ h => h.elim)
   clear hk
   refine ⟨⟨B_g1, trivial⟩, ?_⟩
   have n_g5_13_g5_3 := Ne.symm n_g5_3_g5_13
   have n_g5_13_g5_7 := Ne.symm n_g5_7_g5_13
   exact dr5_21 A5_4 A5_8 c5_4 c5_8 g5_1 g5_13 g5_3 g5_7 _ a (En.sub hE ⟨rfl, rfl, rfl, rfl, rfl, rfl, rfl, rfl, rfl, rfl, rfl, rfl, rfl, rfl, rfl, rfl, rfl, rfl, rfl, rfl, rfl, trivial⟩) B_g1 B_g5_3 B_g5_1 B_g5_7 B_g5_13 n_g1_g5_1 n_g1_g5_13 n_g1_g5_3 n_g1_g5_7 n_g5_1_g5_13 n_g5_1_g5_3 n_g5_1_g5_7 n_g5_13_g5_3 n_g5_13_g5_7 n_g5_3_g5_7 z_0_g5_1 z_0_g5_13 z_0_g5_3 z_0_g5_7 Nb_q5_8_g1 Nb_q5_8_g5_3 Nb_q5_8_g5_1 Nb_q5_8_g5_7 Nb_q5_8_g5_13 Z_0_q5_8 O_q5_8 K_0
  exact all_nil
 have dr5_19 : ∀ (A5_4 : Option Addr) (c5_4 : Nat) (g5_1 : Nat) (g5_13 : Nat) (g5_3 : Nat) (g5_7 : Nat) (W : World) (a : Act), En 48 a [(0, Value.agg (([Value.int .i64 c, Value.int .i64 f, Value.int .i64 l, Value.int .i64 x, Value.int .i64 h] ++ b16 s ++ b16 d)).toArray), (1, Value.pointer (some ⟨g1, 0, none⟩)), (2, Value.slice none 0 0), (3, Value.int .i64 0), (4, Value.int .i64 0), (5, Value.int .i64 (((1536 + c) * 1048576) + f)), (10, Value.bool false), (19, Value.agg #[Value.slice none 0 0, Value.int .i64 0]), (20, Value.pointer (some ⟨g5_1, 0, none⟩)), (21, Value.int .i64 (((1536 + c) * 1048576) + f)), (22, Value.slice (some ⟨g5_3, 0, none⟩) 1 1), (23, Value.pointer (some ⟨g5_1, 0, none⟩)), (24, Value.pointer (some ⟨g1, 2, none⟩)), (25, Value.int .i64 l), (26, Value.slice (some ⟨g5_7, 0, none⟩) 1 1), (28, Value.pointer (some ⟨g1, 3, none⟩)), (29, Value.int .i64 x), (30, Value.pointer (some ⟨g1, 4, none⟩)), (31, Value.int .i64 h), (32, Value.slice (some ⟨g5_13, 0, none⟩) 2 2)] → W.heap[g1]? = some (.cells (([Value.int .i64 c, Value.int .i64 f, Value.int .i64 l, Value.int .i64 x, Value.int .i64 h] ++ b16 s ++ b16 d)).toArray 27 (0, 0)) → W.heap[g5_3]? = some (.cells #[Value.int .i64 (((1536 + c) * 1048576) + f)] 3 (0, 0)) → W.heap[g5_1]? = some (.cells #[Value.slice A5_4 ((putF 4 [((1536 + c) * 1048576) + f]).length) c5_4, Value.int .i64 0] 209 (0, 0)) → W.heap[g5_7]? = some (.cells #[Value.int .i64 l] 3 (0, 0)) → W.heap[g5_13]? = some (.cells #[Value.int .i64 x, Value.int .i64 h] 3 (0, 0)) → g1 ≠ g5_1 → g1 ≠ g5_13 → g1 ≠ g5_3 → g1 ≠ g5_7 → g5_1 ≠ g5_13 → g5_1 ≠ g5_3 → g5_1 ≠ g5_7 → g5_13 ≠ g5_3 → g5_13 ≠ g5_7 → g5_3 ≠ g5_7 → w.heap.size ≤ g5_1 → w.heap.size ≤ g5_13 → w.heap.size ≤ g5_3 → w.heap.size ≤ g5_7 → ¬ OB A5_4 g1 → ¬ OB A5_4 g5_3 → ¬ OB A5_4 g5_1 → ¬ OB A5_4 g5_7 → ¬ OB A5_4 g5_13 → (∀ k, OB A5_4 k → (fun _ => False) k ∨ w.heap.size ≤ k) → W.ownsRow w.heap.size 5 1 (.slice A5_4 ((putF 4 [((1536 + c) * 1048576) + f]).length) c5_4) ((putF 4 [((1536 + c) * 1048576) + f]).length) (encs (Value.int .u8) (putF 4 [((1536 + c) * 1048576) + f])) → Kp w W (fun _ => False) → wpAnyH Try.prog .any (regOf Try.f83 5) QQ (fun W => W.heap[g1]? = some (.cells (([Value.int .i64 c, Value.int .i64 f, Value.int .i64 l, Value.int .i64 x, Value.int .i64 h] ++ b16 s ++ b16 d)).toArray 27 (0, 0)) ∧ True) 3 #[κ, κ, κ, κ, κ, κ, κ, κ, ι, κ, κ, κ, κ, κ, ι, ι] a W := by
  intro A5_4 c5_4 g5_1 g5_13 g5_3 g5_7 w101 a hE B_g1 B_g5_3 B_g5_1 B_g5_7 B_g5_13 n_g1_g5_1 n_g1_g5_13 n_g1_g5_3 n_g1_g5_7 n_g5_1_g5_13 n_g5_1_g5_3 n_g5_1_g5_7 n_g5_13_g5_3 n_g5_13_g5_7 n_g5_3_g5_7 z_0_g5_1 z_0_g5_13 z_0_g5_3 z_0_g5_7 Nb_q5_4_g1 Nb_q5_4_g5_3 Nb_q5_4_g5_1 Nb_q5_4_g5_7 Nb_q5_4_g5_13 Z_0_q5_4 O_q5_4 K_0
  refine d_all (rs := [8]) (by kernel_rfl) rfl ?_
  refine all_cons (d_lit (listed' := #[κ, κ, κ, κ, κ, κ, κ, κ, κ, κ, κ, κ, κ, κ, ι, ι]) rfl ?_) ?_
  ·
   have hnb_g1 := blk_lt B_g1
   have hnb_g5_3 := blk_lt B_g5_3
   have hnb_g5_1 := blk_lt B_g5_1
   have hnb_g5_7 := blk_lt B_g5_7
   have hnb_g5_13 := blk_lt B_g5_13
   have hnz_0 := K_0.kept.1
   have hno_q5_4 := fun k (h : OB A5_4 k) => (own_ob O_q5_4 h).2
   refine (s_call (xs := [Operand.tmp 23, Operand.const (Value.int IntKind.i64 2), Operand.tmp 26]) (args := [Value.pointer (some ⟨g5_1, 0, none⟩), Value.int .i64 2, Value.slice (some ⟨g5_7, 0, none⟩) 1 1]) p83_5_8 hE wn_none rfl rfl Try.func124 cl124 (chain_put g5_1 A5_4 (some ⟨g5_7, 0, none⟩) c5_4 1 2 (putF 4 [((1536 + c) * 1048576) + f]) ([l]) _ B_g5_1 (fun W hk => own_told (own_keep O_q5_4 hk (fun k h h2 => Nb_q5_4_g5_1 (by rw [show k = g5_1 from h2] at h; exact h)))) (fun W hk => C_blk (k := .i64) (l := [l]) (kp_blk B_g5_7 hk (Ne.symm n_g5_1_g5_7)) ⟨rfl, Nat.le_of_ble_eq_true rfl⟩ rfl) (Nat.le_of_ble_eq_true rfl) (fits2 l hl) (Nat.le_of_ble_eq_true rfl)) ?_)
   rintro e w102 ⟨A5_8, c5_8, rfl, B_g5_1', O_q5_8, hk⟩
   replace B_g1 := kp_blk B_g1 hk n_g1_g5_1
   replace B_g5_3 := kp_blk B_g5_3 hk (Ne.symm n_g5_1_g5_3)
   replace B_g5_7 := kp_blk B_g5_7 hk (Ne.symm n_g5_1_g5_7)
   replace B_g5_13 := kp_blk B_g5_13 hk (Ne.symm n_g5_1_g5_13)
   replace O_q5_4 := own_keep O_q5_4 hk (fun k hk2 h2 => Nb_q5_4_g5_1 (by rw [show k = g5_1 from h2] at hk2; exact hk2))
   replace K_0 := K_0.then_ hk (fun k h => by rw [show k = g5_1 from h]; exact Or.inr z_0_g5_1)
   have Nb_q5_8_g1 : ¬ OB A5_8 g1 := fun h => by have := (own_ob O_q5_8 h).1; have := hnb_g1; omega
   have Nb_q5_8_g5_3 : ¬ OB A5_8 g5_3 := fun h => by have := (own_ob O_q5_8 h).1; have := hnb_g5_3; omega
   have Nb_q5_8_g5_1 : ¬ OB A5_8 g5_1 := fun h => by have := (own_ob O_q5_8 h).1; have := hnb_g5_1; omega
   have Nb_q5_8_g5_7 : ¬ OB A5_8 g5_7 := fun h => by have := (own_ob O_q5_8 h).1; have := hnb_g5_7; omega
   have Nb_q5_8_g5_13 : ¬ OB A5_8 g5_13 := fun h => by have := (own_ob O_q5_8 h).1; have := hnb_g5_13; omega
   have Z_0_q5_8 : ∀ k, OB A5_8 k → (fun _ => False) k ∨ w.heap.size ≤ k := fun k h => .inr (by have := (own_ob O_q5_8 h).1; have := hnz_0; omega)
   have NN_q5_8_q5_4 : ∀ k, OB A5_8 k → ¬ OB A5_4 k := fun k h h2 => by have := (own_ob O_q5_8 h).1; have := hno_q5_4 k h2; omega
   have NN_q5_4_q5_8 : ∀ k, OB A5_4 k → ¬ OB A5_8 k := fun k h h2 => NN_q5_8_q5_4 k h2 h
   replace O_q5_8 := own_lower O_q5_8 hnz_0
   replace B_g5_1 := B_g5_1'
   refine ⟨_, rfl, ?_⟩; clear hE a; intro a hE
   refine ⟨⟨B_g1, trivial⟩, ?_⟩
   exact dr5_21 A5_4 A5_8 c5_4 c5_8 g5_1 g5_13 g5_3 g5_7 _ a (En.sub hE ⟨rfl, rfl, rfl, rfl, rfl, rfl, rfl, rfl, rfl, rfl, rfl, rfl, rfl, rfl, rfl, rfl, rfl, rfl, rfl, rfl, rfl, trivial⟩) B_g1 B_g5_3 B_g5_1 B_g5_7 B_g5_13 n_g1_g5_1 n_g1_g5_13 n_g1_g5_3 n_g1_g5_7 n_g5_1_g5_13 n_g5_1_g5_3 n_g5_1_g5_7 n_g5_13_g5_3 n_g5_13_g5_7 n_g5_3_g5_7 z_0_g5_1 z_0_g5_13 z_0_g5_3 z_0_g5_7 Nb_q5_8_g1 Nb_q5_8_g5_3 Nb_q5_8_g5_1 Nb_q5_8_g5_7 Nb_q5_8_g5_13 Z_0_q5_8 O_q5_8 K_0
  exact all_nil
 have dr5_18 : ∀ (g5_1 : Nat) (g5_13 : Nat) (g5_3 : Nat) (g5_7 : Nat) (W : World) (a : Act), En 48 a [(0, Value.agg (([Value.int .i64 c, Value.int .i64 f, Value.int .i64 l, Value.int .i64 x, Value.int .i64 h] ++ b16 s ++ b16 d)).toArray), (1, Value.pointer (some ⟨g1, 0, none⟩)), (2, Value.slice none 0 0), (3, Value.int .i64 0), (4, Value.int .i64 0), (5, Value.int .i64 (((1536 + c) * 1048576) + f)), (10, Value.bool false), (19, Value.agg #[Value.slice none 0 0, Value.int .i64 0]), (20, Value.pointer (some ⟨g5_1, 0, none⟩)), (21, Value.int .i64 (((1536 + c) * 1048576) + f)), (22, Value.slice (some ⟨g5_3, 0, none⟩) 1 1), (24, Value.pointer (some ⟨g1, 2, none⟩)), (25, Value.int .i64 l), (26, Value.slice (some ⟨g5_7, 0, none⟩) 1 1), (28, Value.pointer (some ⟨g1, 3, none⟩)), (29, Value.int .i64 x), (30, Value.pointer (some ⟨g1, 4, none⟩)), (31, Value.int .i64 h), (32, Value.slice (some ⟨g5_13, 0, none⟩) 2 2)] → W.heap[g1]? = some (.cells (([Value.int .i64 c, Value.int .i64 f, Value.int .i64 l, Value.int .i64 x, Value.int .i64 h] ++ b16 s ++ b16 d)).toArray 27 (0, 0)) → W.heap[g5_7]? = some (.cells #[Value.int .i64 l] 3 (0, 0)) → W.heap[g5_13]? = some (.cells #[Value.int .i64 x, Value.int .i64 h] 3 (0, 0)) → W.heap[g5_3]? = some (.cells #[Value.int .i64 (((1536 + c) * 1048576) + f)] 3 (0, 0)) → W.heap[g5_1]? = some (.cells #[Value.slice none 0 0, Value.int .i64 0] 209 (0, 0)) → g1 ≠ g5_1 → g1 ≠ g5_13 → g1 ≠ g5_3 → g1 ≠ g5_7 → g5_1 ≠ g5_13 → g5_1 ≠ g5_3 → g5_1 ≠ g5_7 → g5_13 ≠ g5_3 → g5_13 ≠ g5_7 → g5_3 ≠ g5_7 → w.heap.size ≤ g5_1 → w.heap.size ≤ g5_13 → w.heap.size ≤ g5_3 → w.heap.size ≤ g5_7 → Kp w W (fun _ => False) → wpAnyH Try.prog .any (regOf Try.f83 5) QQ (fun W => W.heap[g1]? = some (.cells (([Value.int .i64 c, Value.int .i64 f, Value.int .i64 l, Value.int .i64 x, Value.int .i64 h] ++ b16 s ++ b16 d)).toArray 27 (0, 0)) ∧ True) 4 #[κ, κ, κ, κ, ι, κ, κ, κ, ι, κ, κ, κ, κ, κ, ι, ι] a W := by
  intro g5_1 g5_13 g5_3 g5_7 w103 a hE B_g1 B_g5_7 B_g5_13 B_g5_3 B_g5_1 n_g1_g5_1 n_g1_g5_13 n_g1_g5_3 n_g1_g5_7 n_g5_1_g5_13 n_g5_1_g5_3 n_g5_1_g5_7 n_g5_13_g5_3 n_g5_13_g5_7 n_g5_3_g5_7 z_0_g5_1 z_0_g5_13 z_0_g5_3 z_0_g5_7 K_0
  refine d_all (rs := [4]) (by kernel_rfl) rfl ?_
  refine all_cons (d_lit (listed' := #[κ, κ, κ, κ, κ, κ, κ, κ, ι, κ, κ, κ, κ, κ, ι, ι]) rfl ?_) ?_
  ·
   have hnb_g1 := blk_lt B_g1
   have hnb_g5_7 := blk_lt B_g5_7
   have hnb_g5_13 := blk_lt B_g5_13
   have hnb_g5_3 := blk_lt B_g5_3
   have hnb_g5_1 := blk_lt B_g5_1
   have hnz_0 := K_0.kept.1
   refine (s_call (xs := [Operand.tmp 20, Operand.const (Value.int IntKind.i64 4), Operand.tmp 22]) (args := [Value.pointer (some ⟨g5_1, 0, none⟩), Value.int .i64 4, Value.slice (some ⟨g5_3, 0, none⟩) 1 1]) p83_5_4 hE wn_none rfl rfl Try.func124 cl124 (chain_put g5_1 none (some ⟨g5_3, 0, none⟩) 0 1 4 ([]) ([((1536 + c) * 1048576) + f]) _ B_g5_1 (fun W hk => Kd.C_nil _ _) (fun W hk => C_blk (k := .i64) (l := [((1536 + c) * 1048576) + f]) (kp_blk B_g5_3 hk (Ne.symm n_g5_1_g5_3)) ⟨rfl, Nat.le_of_ble_eq_true rfl⟩ rfl) (Nat.le_of_ble_eq_true rfl) (fits4 c f hc hf) (Nat.le_of_ble_eq_true rfl)) ?_)
   rintro e w104 ⟨A5_4, c5_4, rfl, B_g5_1', O_q5_4, hk⟩
   replace B_g1 := kp_blk B_g1 hk n_g1_g5_1
   replace B_g5_7 := kp_blk B_g5_7 hk (Ne.symm n_g5_1_g5_7)
   replace B_g5_13 := kp_blk B_g5_13 hk (Ne.symm n_g5_1_g5_13)
   replace B_g5_3 := kp_blk B_g5_3 hk (Ne.symm n_g5_1_g5_3)
   replace K_0 := K_0.then_ hk (fun k h => by rw [show k = g5_1 from h]; exact Or.inr z_0_g5_1)
   have Nb_q5_4_g1 : ¬ OB A5_4 g1 := fun h => by have := (own_ob O_q5_4 h).1; have := hnb_g1; omega
   have Nb_q5_4_g5_7 : ¬ OB A5_4 g5_7 := fun h => by have := (own_ob O_q5_4 h).1; have := hnb_g5_7; omega
   have Nb_q5_4_g5_13 : ¬ OB A5_4 g5_13 := fun h => by have := (own_ob O_q5_4 h).1; have := hnb_g5_13; omega
   have Nb_q5_4_g5_3 : ¬ OB A5_4 g5_3 := fun h => by have := (own_ob O_q5_4 h).1; have := hnb_g5_3; omega
   have Nb_q5_4_g5_1 : ¬ OB A5_4 g5_1 := fun h => by have := (own_ob O_q5_4 h).1; have := hnb_g5_1; omega
   have Z_0_q5_4 : ∀ k, OB A5_4 k → (fun _ => False) k ∨ w.heap.size ≤ k := fun k h => .inr (by have := (own_ob O_q5_4 h).1; have := hnz_0; omega)
   replace O_q5_4 := own_lower O_q5_4 hnz_0
   replace B_g5_1 := B_g5_1'
   refine ⟨_, rfl, ?_⟩; clear hE a; intro a hE
   refine ⟨⟨B_g1, trivial⟩, ?_⟩
   exact dr5_19 A5_4 c5_4 g5_1 g5_13 g5_3 g5_7 _ a (En.sub hE ⟨rfl, rfl, rfl, rfl, rfl, rfl, rfl, rfl, rfl, rfl, rfl, rfl, rfl, rfl, rfl, rfl, rfl, rfl, rfl, rfl, trivial⟩) B_g1 B_g5_3 B_g5_1 B_g5_7 B_g5_13 n_g1_g5_1 n_g1_g5_13 n_g1_g5_3 n_g1_g5_7 n_g5_1_g5_13 n_g5_1_g5_3 n_g5_1_g5_7 n_g5_13_g5_3 n_g5_13_g5_7 n_g5_3_g5_7 z_0_g5_1 z_0_g5_13 z_0_g5_3 z_0_g5_7 Nb_q5_4_g1 Nb_q5_4_g5_3 Nb_q5_4_g5_1 Nb_q5_4_g5_7 Nb_q5_4_g5_13 Z_0_q5_4 O_q5_4 K_0
  exact all_nil
 have dr5_17 : ∀ (A5_4 : Option Addr) (c5_4 : Nat) (g5_1 : Nat) (g5_13 : Nat) (g5_3 : Nat) (W : World) (a : Act), En 48 a [(0, Value.agg (([Value.int .i64 c, Value.int .i64 f, Value.int .i64 l, Value.int .i64 x, Value.int .i64 h] ++ b16 s ++ b16 d)).toArray), (1, Value.pointer (some ⟨g1, 0, none⟩)), (2, Value.slice none 0 0), (3, Value.int .i64 0), (4, Value.int .i64 0), (5, Value.int .i64 (((1536 + c) * 1048576) + f)), (10, Value.bool false), (19, Value.agg #[Value.slice none 0 0, Value.int .i64 0]), (20, Value.pointer (some ⟨g5_1, 0, none⟩)), (21, Value.int .i64 (((1536 + c) * 1048576) + f)), (22, Value.slice (some ⟨g5_3, 0, none⟩) 1 1), (23, Value.pointer (some ⟨g5_1, 0, none⟩)), (24, Value.pointer (some ⟨g1, 2, none⟩)), (25, Value.int .i64 l), (28, Value.pointer (some ⟨g1, 3, none⟩)), (29, Value.int .i64 x), (30, Value.pointer (some ⟨g1, 4, none⟩)), (31, Value.int .i64 h), (32, Value.slice (some ⟨g5_13, 0, none⟩) 2 2)] → W.heap[g1]? = some (.cells (([Value.int .i64 c, Value.int .i64 f, Value.int .i64 l, Value.int .i64 x, Value.int .i64 h] ++ b16 s ++ b16 d)).toArray 27 (0, 0)) → W.heap[g5_3]? = some (.cells #[Value.int .i64 (((1536 + c) * 1048576) + f)] 3 (0, 0)) → W.heap[g5_1]? = some (.cells #[Value.slice A5_4 ((putF 4 [((1536 + c) * 1048576) + f]).length) c5_4, Value.int .i64 0] 209 (0, 0)) → W.heap[g5_13]? = some (.cells #[Value.int .i64 x, Value.int .i64 h] 3 (0, 0)) → g1 ≠ g5_1 → g1 ≠ g5_13 → g1 ≠ g5_3 → g5_1 ≠ g5_13 → g5_1 ≠ g5_3 → g5_13 ≠ g5_3 → w.heap.size ≤ g5_1 → w.heap.size ≤ g5_13 → w.heap.size ≤ g5_3 → ¬ OB A5_4 g1 → ¬ OB A5_4 g5_3 → ¬ OB A5_4 g5_1 → ¬ OB A5_4 g5_13 → (∀ k, OB A5_4 k → (fun _ => False) k ∨ w.heap.size ≤ k) → W.ownsRow w.heap.size 5 1 (.slice A5_4 ((putF 4 [((1536 + c) * 1048576) + f]).length) c5_4) ((putF 4 [((1536 + c) * 1048576) + f]).length) (encs (Value.int .u8) (putF 4 [((1536 + c) * 1048576) + f])) → Kp w W (fun _ => False) → wpAnyH Try.prog .any (regOf Try.f83 5) QQ (fun W => W.heap[g1]? = some (.cells (([Value.int .i64 c, Value.int .i64 f, Value.int .i64 l, Value.int .i64 x, Value.int .i64 h] ++ b16 s ++ b16 d)).toArray 27 (0, 0)) ∧ True) 4 #[κ, κ, κ, κ, κ, κ, κ, ι, ι, κ, κ, κ, κ, κ, ι, ι] a W := by
  intro A5_4 c5_4 g5_1 g5_13 g5_3 w105 a hE B_g1 B_g5_3 B_g5_1 B_g5_13 n_g1_g5_1 n_g1_g5_13 n_g1_g5_3 n_g5_1_g5_13 n_g5_1_g5_3 n_g5_13_g5_3 z_0_g5_1 z_0_g5_13 z_0_g5_3 Nb_q5_4_g1 Nb_q5_4_g5_3 Nb_q5_4_g5_1 Nb_q5_4_g5_13 Z_0_q5_4 O_q5_4 K_0
  refine d_all (rs := [7]) (by kernel_rfl) rfl ?_
  refine all_cons (d_lit (listed' := #[κ, κ, κ, κ, κ, κ, κ, κ, ι, κ, κ, κ, κ, κ, ι, ι]) rfl ?_) ?_
  ·
   refine (s_row (xs := [(0, Operand.tmp 25)]) (vs := [(0, Value.int .i64 l)]) (cs := #[Value.int .i64 l]) p83_5_7 hE wn_none rfl Try.underlying22 rfl (by kernel_rfl) ?_)
   clear hE a; intro g5_7 w106 z107 B_g5_7 hk a hE
   have n_g1_g5_7 : g1 ≠ g5_7 := ne_new B_g1 z107
   have n_g5_3_g5_7 : g5_3 ≠ g5_7 := ne_new B_g5_3 z107
   have n_g5_1_g5_7 : g5_1 ≠ g5_7 := ne_new B_g5_1 z107
   have n_g5_13_g5_7 : g5_13 ≠ g5_7 := ne_new B_g5_13 z107
   have z_0_g5_7 := Nat.le_trans K_0.kept.1 z107
   have Nb_q5_4_g5_7 : ¬ OB A5_4 g5_7 := fun h => by have := (own_ob O_q5_4 h).2; omega
   replace B_g1 := kp_blk B_g1 hk (fun h => h)
   replace B_g5_3 := kp_blk B_g5_3 hk (fun h => h)
   replace B_g5_1 := kp_blk B_g5_1 hk (fun h => h)
   replace B_g5_13 := kp_blk B_g5_13 hk (fun h => h)
   replace O_q5_4 := own_keep O_q5_4 hk (fun _ _ h => h)
   replace K_0 := K_0.then_ hk (fun _ h => h.elim)
   clear hk
   refine ⟨⟨B_g1, trivial⟩, ?_⟩
   exact dr5_19 A5_4 c5_4 g5_1 g5_13 g5_3 g5_7 _ a (En.sub hE ⟨rfl, rfl, rfl, rfl, rfl, rfl, rfl, rfl, rfl, rfl, rfl, rfl, rfl, rfl, rfl, rfl, rfl, rfl, rfl, rfl, trivial⟩) B_g1 B_g5_3 B_g5_1 B_g5_7 B_g5_13 n_g1_g5_1 n_g1_g5_13 n_g1_g5_3 n_g1_g5_7 n_g5_1_g5_13 n_g5_1_g5_3 n_g5_1_g5_7 n_g5_13_g5_3 n_g5_13_g5_7 n_g5_3_g5_7 z_0_g5_1 z_0_g5_13 z_0_g5_3 z_0_g5_7 Nb_q5_4_g1 Nb_q5_4_g5_3 Nb_q5_4_g5_1 Nb_q5_4_g5_7 Nb_q5_4_g5_13 Z_0_q5_4 O_q5_4 K_0
  exact all_nil
 have dr5_16 : ∀ (A5_4 : Option Addr) (c5_4 : Nat) (g5_1 : Nat) (g5_3 : Nat) (g5_7 : Nat) (W : World) (a : Act), En 48 a [(0, Value.agg (([Value.int .i64 c, Value.int .i64 f, Value.int .i64 l, Value.int .i64 x, Value.int .i64 h] ++ b16 s ++ b16 d)).toArray), (1, Value.pointer (some ⟨g1, 0, none⟩)), (2, Value.slice none 0 0), (3, Value.int .i64 0), (4, Value.int .i64 0), (5, Value.int .i64 (((1536 + c) * 1048576) + f)), (10, Value.bool false), (19, Value.agg #[Value.slice none 0 0, Value.int .i64 0]), (20, Value.pointer (some ⟨g5_1, 0, none⟩)), (21, Value.int .i64 (((1536 + c) * 1048576) + f)), (22, Value.slice (some ⟨g5_3, 0, none⟩) 1 1), (23, Value.pointer (some ⟨g5_1, 0, none⟩)), (24, Value.pointer (some ⟨g1, 2, none⟩)), (25, Value.int .i64 l), (26, Value.slice (some ⟨g5_7, 0, none⟩) 1 1), (28, Value.pointer (some ⟨g1, 3, none⟩)), (29, Value.int .i64 x), (30, Value.pointer (some ⟨g1, 4, none⟩)), (31, Value.int .i64 h)] → W.heap[g1]? = some (.cells (([Value.int .i64 c, Value.int .i64 f, Value.int .i64 l, Value.int .i64 x, Value.int .i64 h] ++ b16 s ++ b16 d)).toArray 27 (0, 0)) → W.heap[g5_3]? = some (.cells #[Value.int .i64 (((1536 + c) * 1048576) + f)] 3 (0, 0)) → W.heap[g5_1]? = some (.cells #[Value.slice A5_4 ((putF 4 [((1536 + c) * 1048576) + f]).length) c5_4, Value.int .i64 0] 209 (0, 0)) → W.heap[g5_7]? = some (.cells #[Value.int .i64 l] 3 (0, 0)) → g1 ≠ g5_1 → g1 ≠ g5_3 → g1 ≠ g5_7 → g5_1 ≠ g5_3 → g5_1 ≠ g5_7 → g5_3 ≠ g5_7 → w.heap.size ≤ g5_1 → w.heap.size ≤ g5_3 → w.heap.size ≤ g5_7 → ¬ OB A5_4 g1 → ¬ OB A5_4 g5_3 → ¬ OB A5_4 g5_1 → ¬ OB A5_4 g5_7 → (∀ k, OB A5_4 k → (fun _ => False) k ∨ w.heap.size ≤ k) → W.ownsRow w.heap.size 5 1 (.slice A5_4 ((putF 4 [((1536 + c) * 1048576) + f]).length) c5_4) ((putF 4 [((1536 + c) * 1048576) + f]).length) (encs (Value.int .u8) (putF 4 [((1536 + c) * 1048576) + f])) → Kp w W (fun _ => False) → wpAnyH Try.prog .any (regOf Try.f83 5) QQ (fun W => W.heap[g1]? = some (.cells (([Value.int .i64 c, Value.int .i64 f, Value.int .i64 l, Value.int .i64 x, Value.int .i64 h] ++ b16 s ++ b16 d)).toArray 27 (0, 0)) ∧ True) 4 #[κ, κ, κ, κ, κ, κ, κ, κ, ι, κ, κ, κ, κ, ι, ι, ι] a W := by
  intro A5_4 c5_4 g5_1 g5_3 g5_7 w108 a hE B_g1 B_g5_3 B_g5_1 B_g5_7 n_g1_g5_1 n_g1_g5_3 n_g1_g5_7 n_g5_1_g5_3 n_g5_1_g5_7 n_g5_3_g5_7 z_0_g5_1 z_0_g5_3 z_0_g5_7 Nb_q5_4_g1 Nb_q5_4_g5_3 Nb_q5_4_g5_1 Nb_q5_4_g5_7 Z_0_q5_4 O_q5_4 K_0
  refine d_all (rs := [8, 13]) (by kernel_rfl) rfl ?_
  refine all_cons (d_lit (listed' := #[κ, κ, κ, κ, κ, κ, κ, κ, κ, κ, κ, κ, κ, ι, ι, ι]) rfl ?_) ?_
  ·
   have hnb_g1 := blk_lt B_g1
   have hnb_g5_3 := blk_lt B_g5_3
   have hnb_g5_1 := blk_lt B_g5_1
   have hnb_g5_7 := blk_lt B_g5_7
   have hnz_0 := K_0.kept.1
   have hno_q5_4 := fun k (h : OB A5_4 k) => (own_ob O_q5_4 h).2
   refine (s_call (xs := [Operand.tmp 23, Operand.const (Value.int IntKind.i64 2), Operand.tmp 26]) (args := [Value.pointer (some ⟨g5_1, 0, none⟩), Value.int .i64 2, Value.slice (some ⟨g5_7, 0, none⟩) 1 1]) p83_5_8 hE wn_none rfl rfl Try.func124 cl124 (chain_put g5_1 A5_4 (some ⟨g5_7, 0, none⟩) c5_4 1 2 (putF 4 [((1536 + c) * 1048576) + f]) ([l]) _ B_g5_1 (fun W hk => own_told (own_keep O_q5_4 hk (fun k h h2 => Nb_q5_4_g5_1 (by rw [show k = g5_1 from h2] at h; exact h)))) (fun W hk => C_blk (k := .i64) (l := [l]) (kp_blk B_g5_7 hk (Ne.symm n_g5_1_g5_7)) ⟨rfl, Nat.le_of_ble_eq_true rfl⟩ rfl) (Nat.le_of_ble_eq_true rfl) (fits2 l hl) (Nat.le_of_ble_eq_true rfl)) ?_)
   rintro e w109 ⟨A5_8, c5_8, rfl, B_g5_1', O_q5_8, hk⟩
   replace B_g1 := kp_blk B_g1 hk n_g1_g5_1
   replace B_g5_3 := kp_blk B_g5_3 hk (Ne.symm n_g5_1_g5_3)
   replace B_g5_7 := kp_blk B_g5_7 hk (Ne.symm n_g5_1_g5_7)
   replace O_q5_4 := own_keep O_q5_4 hk (fun k hk2 h2 => Nb_q5_4_g5_1 (by rw [show k = g5_1 from h2] at hk2; exact hk2))
   replace K_0 := K_0.then_ hk (fun k h => by rw [show k = g5_1 from h]; exact Or.inr z_0_g5_1)
   have Nb_q5_8_g1 : ¬ OB A5_8 g1 := fun h => by have := (own_ob O_q5_8 h).1; have := hnb_g1; omega
   have Nb_q5_8_g5_3 : ¬ OB A5_8 g5_3 := fun h => by have := (own_ob O_q5_8 h).1; have := hnb_g5_3; omega
   have Nb_q5_8_g5_1 : ¬ OB A5_8 g5_1 := fun h => by have := (own_ob O_q5_8 h).1; have := hnb_g5_1; omega
   have Nb_q5_8_g5_7 : ¬ OB A5_8 g5_7 := fun h => by have := (own_ob O_q5_8 h).1; have := hnb_g5_7; omega
   have Z_0_q5_8 : ∀ k, OB A5_8 k → (fun _ => False) k ∨ w.heap.size ≤ k := fun k h => .inr (by have := (own_ob O_q5_8 h).1; have := hnz_0; omega)
   have NN_q5_8_q5_4 : ∀ k, OB A5_8 k → ¬ OB A5_4 k := fun k h h2 => by have := (own_ob O_q5_8 h).1; have := hno_q5_4 k h2; omega
   have NN_q5_4_q5_8 : ∀ k, OB A5_4 k → ¬ OB A5_8 k := fun k h h2 => NN_q5_8_q5_4 k h2 h
   replace O_q5_8 := own_lower O_q5_8 hnz_0
   replace B_g5_1 := B_g5_1'
   refine ⟨_, rfl, ?_⟩; clear hE a; intro a hE
   refine ⟨⟨B_g1, trivial⟩, ?_⟩
   exact dr5_20 A5_4 A5_8 c5_4 c5_8 g5_1 g5_3 g5_7 _ a (En.sub hE ⟨rfl, rfl, rfl, rfl, rfl, rfl, rfl, rfl, rfl, rfl, rfl, rfl, rfl, rfl, rfl, rfl, rfl, rfl, rfl, rfl, trivial⟩) B_g1 B_g5_3 B_g5_1 B_g5_7 n_g1_g5_1 n_g1_g5_3 n_g1_g5_7 n_g5_1_g5_3 n_g5_1_g5_7 n_g5_3_g5_7 z_0_g5_1 z_0_g5_3 z_0_g5_7 Nb_q5_8_g1 Nb_q5_8_g5_3 Nb_q5_8_g5_1 Nb_q5_8_g5_7 Z_0_q5_8 O_q5_8 K_0
  refine all_cons (d_lit (listed' := #[κ, κ, κ, κ, κ, κ, κ, κ, ι, κ, κ, κ, κ, κ, ι, ι]) rfl ?_) ?_
  ·
   refine (s_row (xs := [(0, Operand.tmp 29), (1, Operand.tmp 31)]) (vs := [(0, Value.int .i64 x), (1, Value.int .i64 h)]) (cs := #[Value.int .i64 x, Value.int .i64 h]) p83_5_13 hE wn_none rfl Try.underlying22 rfl (by kernel_rfl) ?_)
   clear hE a; intro g5_13 w110 z111 B_g5_13 hk a hE
   have n_g1_g5_13 : g1 ≠ g5_13 := ne_new B_g1 z111
   have n_g5_3_g5_13 : g5_3 ≠ g5_13 := ne_new B_g5_3 z111
   have n_g5_1_g5_13 : g5_1 ≠ g5_13 := ne_new B_g5_1 z111
   have n_g5_7_g5_13 : g5_7 ≠ g5_13 := ne_new B_g5_7 z111
   have z_0_g5_13 := Nat.le_trans K_0.kept.1 z111
   have Nb_q5_4_g5_13 : ¬ OB A5_4 g5_13 := fun h => by have := (own_ob O_q5_4 h).2; omega
   replace B_g1 := kp_blk B_g1 hk (fun h => h)
   replace B_g5_3 := kp_blk B_g5_3 hk (fun h => h)
   replace B_g5_1 := kp_blk B_g5_1 hk (fun h => h)
   replace B_g5_7 := kp_blk B_g5_7 hk (fun h => h)
   replace O_q5_4 := own_keep O_q5_4 hk (fun _ _ h => h)
   replace K_0 := K_0.then_ hk (fun _ h => h.elim)
   clear hk
   refine ⟨⟨B_g1, trivial⟩, ?_⟩
   have n_g5_13_g5_3 := Ne.symm n_g5_3_g5_13
   have n_g5_13_g5_7 := Ne.symm n_g5_7_g5_13
   exact dr5_19 A5_4 c5_4 g5_1 g5_13 g5_3 g5_7 _ a (En.sub hE ⟨rfl, rfl, rfl, rfl, rfl, rfl, rfl, rfl, rfl, rfl, rfl, rfl, rfl, rfl, rfl, rfl, rfl, rfl, rfl, rfl, trivial⟩) B_g1 B_g5_3 B_g5_1 B_g5_7 B_g5_13 n_g1_g5_1 n_g1_g5_13 n_g1_g5_3 n_g1_g5_7 n_g5_1_g5_13 n_g5_1_g5_3 n_g5_1_g5_7 n_g5_13_g5_3 n_g5_13_g5_7 n_g5_3_g5_7 z_0_g5_1 z_0_g5_13 z_0_g5_3 z_0_g5_7 Nb_q5_4_g1 Nb_q5_4_g5_3 Nb_q5_4_g5_1 Nb_q5_4_g5_7 Nb_q5_4_g5_13 Z_0_q5_4 O_q5_4 K_0
  exact all_nil
 have dr5_15 : ∀ (g5_1 : Nat) (g5_3 : Nat) (g5_7 : Nat) (W : World) (a : Act), En 48 a [(0, Value.agg (([Value.int .i64 c, Value.int .i64 f, Value.int .i64 l, Value.int .i64 x, Value.int .i64 h] ++ b16 s ++ b16 d)).toArray), (1, Value.pointer (some ⟨g1, 0, none⟩)), (2, Value.slice none 0 0), (3, Value.int .i64 0), (4, Value.int .i64 0), (5, Value.int .i64 (((1536 + c) * 1048576) + f)), (10, Value.bool false), (19, Value.agg #[Value.slice none 0 0, Value.int .i64 0]), (20, Value.pointer (some ⟨g5_1, 0, none⟩)), (21, Value.int .i64 (((1536 + c) * 1048576) + f)), (22, Value.slice (some ⟨g5_3, 0, none⟩) 1 1), (24, Value.pointer (some ⟨g1, 2, none⟩)), (25, Value.int .i64 l), (26, Value.slice (some ⟨g5_7, 0, none⟩) 1 1), (28, Value.pointer (some ⟨g1, 3, none⟩)), (29, Value.int .i64 x), (30, Value.pointer (some ⟨g1, 4, none⟩)), (31, Value.int .i64 h)] → W.heap[g1]? = some (.cells (([Value.int .i64 c, Value.int .i64 f, Value.int .i64 l, Value.int .i64 x, Value.int .i64 h] ++ b16 s ++ b16 d)).toArray 27 (0, 0)) → W.heap[g5_7]? = some (.cells #[Value.int .i64 l] 3 (0, 0)) → W.heap[g5_1]? = some (.cells #[Value.slice none 0 0, Value.int .i64 0] 209 (0, 0)) → W.heap[g5_3]? = some (.cells #[Value.int .i64 (((1536 + c) * 1048576) + f)] 3 (0, 0)) → g1 ≠ g5_1 → g1 ≠ g5_3 → g1 ≠ g5_7 → g5_1 ≠ g5_3 → g5_1 ≠ g5_7 → g5_3 ≠ g5_7 → w.heap.size ≤ g5_1 → w.heap.size ≤ g5_3 → w.heap.size ≤ g5_7 → Kp w W (fun _ => False) → wpAnyH Try.prog .any (regOf Try.f83 5) QQ (fun W => W.heap[g1]? = some (.cells (([Value.int .i64 c, Value.int .i64 f, Value.int .i64 l, Value.int .i64 x, Value.int .i64 h] ++ b16 s ++ b16 d)).toArray 27 (0, 0)) ∧ True) 5 #[κ, κ, κ, κ, ι, κ, κ, κ, ι, κ, κ, κ, κ, ι, ι, ι] a W := by
  intro g5_1 g5_3 g5_7 w112 a hE B_g1 B_g5_7 B_g5_1 B_g5_3 n_g1_g5_1 n_g1_g5_3 n_g1_g5_7 n_g5_1_g5_3 n_g5_1_g5_7 n_g5_3_g5_7 z_0_g5_1 z_0_g5_3 z_0_g5_7 K_0
  refine d_all (rs := [4, 13]) (by kernel_rfl) rfl ?_
  refine all_cons (d_lit (listed' := #[κ, κ, κ, κ, κ, κ, κ, κ, ι, κ, κ, κ, κ, ι, ι, ι]) rfl ?_) ?_
  ·
   have hnb_g1 := blk_lt B_g1
   have hnb_g5_7 := blk_lt B_g5_7
   have hnb_g5_1 := blk_lt B_g5_1
   have hnb_g5_3 := blk_lt B_g5_3
   have hnz_0 := K_0.kept.1
   refine (s_call (xs := [Operand.tmp 20, Operand.const (Value.int IntKind.i64 4), Operand.tmp 22]) (args := [Value.pointer (some ⟨g5_1, 0, none⟩), Value.int .i64 4, Value.slice (some ⟨g5_3, 0, none⟩) 1 1]) p83_5_4 hE wn_none rfl rfl Try.func124 cl124 (chain_put g5_1 none (some ⟨g5_3, 0, none⟩) 0 1 4 ([]) ([((1536 + c) * 1048576) + f]) _ B_g5_1 (fun W hk => Kd.C_nil _ _) (fun W hk => C_blk (k := .i64) (l := [((1536 + c) * 1048576) + f]) (kp_blk B_g5_3 hk (Ne.symm n_g5_1_g5_3)) ⟨rfl, Nat.le_of_ble_eq_true rfl⟩ rfl) (Nat.le_of_ble_eq_true rfl) (fits4 c f hc hf) (Nat.le_of_ble_eq_true rfl)) ?_)
   rintro e w113 ⟨A5_4, c5_4, rfl, B_g5_1', O_q5_4, hk⟩
   replace B_g1 := kp_blk B_g1 hk n_g1_g5_1
   replace B_g5_7 := kp_blk B_g5_7 hk (Ne.symm n_g5_1_g5_7)
   replace B_g5_3 := kp_blk B_g5_3 hk (Ne.symm n_g5_1_g5_3)
   replace K_0 := K_0.then_ hk (fun k h => by rw [show k = g5_1 from h]; exact Or.inr z_0_g5_1)
   have Nb_q5_4_g1 : ¬ OB A5_4 g1 := fun h => by have := (own_ob O_q5_4 h).1; have := hnb_g1; omega
   have Nb_q5_4_g5_7 : ¬ OB A5_4 g5_7 := fun h => by have := (own_ob O_q5_4 h).1; have := hnb_g5_7; omega
   have Nb_q5_4_g5_1 : ¬ OB A5_4 g5_1 := fun h => by have := (own_ob O_q5_4 h).1; have := hnb_g5_1; omega
   have Nb_q5_4_g5_3 : ¬ OB A5_4 g5_3 := fun h => by have := (own_ob O_q5_4 h).1; have := hnb_g5_3; omega
   have Z_0_q5_4 : ∀ k, OB A5_4 k → (fun _ => False) k ∨ w.heap.size ≤ k := fun k h => .inr (by have := (own_ob O_q5_4 h).1; have := hnz_0; omega)
   replace O_q5_4 := own_lower O_q5_4 hnz_0
   replace B_g5_1 := B_g5_1'
   refine ⟨_, rfl, ?_⟩; clear hE a; intro a hE
   refine ⟨⟨B_g1, trivial⟩, ?_⟩
   exact dr5_16 A5_4 c5_4 g5_1 g5_3 g5_7 _ a (En.sub hE ⟨rfl, rfl, rfl, rfl, rfl, rfl, rfl, rfl, rfl, rfl, rfl, rfl, rfl, rfl, rfl, rfl, rfl, rfl, rfl, trivial⟩) B_g1 B_g5_3 B_g5_1 B_g5_7 n_g1_g5_1 n_g1_g5_3 n_g1_g5_7 n_g5_1_g5_3 n_g5_1_g5_7 n_g5_3_g5_7 z_0_g5_1 z_0_g5_3 z_0_g5_7 Nb_q5_4_g1 Nb_q5_4_g5_3 Nb_q5_4_g5_1 Nb_q5_4_g5_7 Z_0_q5_4 O_q5_4 K_0
  refine all_cons (d_lit (listed' := #[κ, κ, κ, κ, ι, κ, κ, κ, ι, κ, κ, κ, κ, κ, ι, ι]) rfl ?_) ?_
  ·
   refine (s_row (xs := [(0, Operand.tmp 29), (1, Operand.tmp 31)]) (vs := [(0, Value.int .i64 x), (1, Value.int .i64 h)]) (cs := #[Value.int .i64 x, Value.int .i64 h]) p83_5_13 hE wn_none rfl Try.underlying22 rfl (by kernel_rfl) ?_)
   clear hE a; intro g5_13 w114 z115 B_g5_13 hk a hE
   have n_g1_g5_13 : g1 ≠ g5_13 := ne_new B_g1 z115
   have n_g5_7_g5_13 : g5_7 ≠ g5_13 := ne_new B_g5_7 z115
   have n_g5_1_g5_13 : g5_1 ≠ g5_13 := ne_new B_g5_1 z115
   have n_g5_3_g5_13 : g5_3 ≠ g5_13 := ne_new B_g5_3 z115
   have z_0_g5_13 := Nat.le_trans K_0.kept.1 z115
   replace B_g1 := kp_blk B_g1 hk (fun h => h)
   replace B_g5_7 := kp_blk B_g5_7 hk (fun h => h)
   replace B_g5_1 := kp_blk B_g5_1 hk (fun h => h)
   replace B_g5_3 := kp_blk B_g5_3 hk (fun h => h)
   replace K_0 := K_0.then_ hk (fun _ h => h.elim)
   clear hk
   refine ⟨⟨B_g1, trivial⟩, ?_⟩
   have n_g5_13_g5_3 := Ne.symm n_g5_3_g5_13
   have n_g5_13_g5_7 := Ne.symm n_g5_7_g5_13
   exact dr5_18 g5_1 g5_13 g5_3 g5_7 _ a (En.sub hE ⟨rfl, rfl, rfl, rfl, rfl, rfl, rfl, rfl, rfl, rfl, rfl, rfl, rfl, rfl, rfl, rfl, rfl, rfl, rfl, trivial⟩) B_g1 B_g5_7 B_g5_13 B_g5_3 B_g5_1 n_g1_g5_1 n_g1_g5_13 n_g1_g5_3 n_g1_g5_7 n_g5_1_g5_13 n_g5_1_g5_3 n_g5_1_g5_7 n_g5_13_g5_3 n_g5_13_g5_7 n_g5_3_g5_7 z_0_g5_1 z_0_g5_13 z_0_g5_3 z_0_g5_7 K_0
  exact all_nil
 have dr5_14 : ∀ (g5_1 : Nat) (g5_13 : Nat) (g5_7 : Nat) (W : World) (a : Act), En 48 a [(0, Value.agg (([Value.int .i64 c, Value.int .i64 f, Value.int .i64 l, Value.int .i64 x, Value.int .i64 h] ++ b16 s ++ b16 d)).toArray), (1, Value.pointer (some ⟨g1, 0, none⟩)), (2, Value.slice none 0 0), (3, Value.int .i64 0), (4, Value.int .i64 0), (5, Value.int .i64 (((1536 + c) * 1048576) + f)), (10, Value.bool false), (19, Value.agg #[Value.slice none 0 0, Value.int .i64 0]), (20, Value.pointer (some ⟨g5_1, 0, none⟩)), (21, Value.int .i64 (((1536 + c) * 1048576) + f)), (24, Value.pointer (some ⟨g1, 2, none⟩)), (25, Value.int .i64 l), (26, Value.slice (some ⟨g5_7, 0, none⟩) 1 1), (28, Value.pointer (some ⟨g1, 3, none⟩)), (29, Value.int .i64 x), (30, Value.pointer (some ⟨g1, 4, none⟩)), (31, Value.int .i64 h), (32, Value.slice (some ⟨g5_13, 0, none⟩) 2 2)] → W.heap[g1]? = some (.cells (([Value.int .i64 c, Value.int .i64 f, Value.int .i64 l, Value.int .i64 x, Value.int .i64 h] ++ b16 s ++ b16 d)).toArray 27 (0, 0)) → W.heap[g5_7]? = some (.cells #[Value.int .i64 l] 3 (0, 0)) → W.heap[g5_1]? = some (.cells #[Value.slice none 0 0, Value.int .i64 0] 209 (0, 0)) → W.heap[g5_13]? = some (.cells #[Value.int .i64 x, Value.int .i64 h] 3 (0, 0)) → g1 ≠ g5_1 → g1 ≠ g5_13 → g1 ≠ g5_7 → g5_1 ≠ g5_13 → g5_1 ≠ g5_7 → g5_13 ≠ g5_7 → w.heap.size ≤ g5_1 → w.heap.size ≤ g5_13 → w.heap.size ≤ g5_7 → Kp w W (fun _ => False) → wpAnyH Try.prog .any (regOf Try.f83 5) QQ (fun W => W.heap[g1]? = some (.cells (([Value.int .i64 c, Value.int .i64 f, Value.int .i64 l, Value.int .i64 x, Value.int .i64 h] ++ b16 s ++ b16 d)).toArray 27 (0, 0)) ∧ True) 5 #[κ, κ, κ, ι, ι, κ, κ, κ, ι, κ, κ, κ, κ, κ, ι, ι] a W := by
  intro g5_1 g5_13 g5_7 w116 a hE B_g1 B_g5_7 B_g5_1 B_g5_13 n_g1_g5_1 n_g1_g5_13 n_g1_g5_7 n_g5_1_g5_13 n_g5_1_g5_7 n_g5_13_g5_7 z_0_g5_1 z_0_g5_13 z_0_g5_7 K_0
  refine d_all (rs := [3]) (by kernel_rfl) rfl ?_
  refine all_cons (d_lit (listed' := #[κ, κ, κ, κ, ι, κ, κ, κ, ι, κ, κ, κ, κ, κ, ι, ι]) rfl ?_) ?_
  ·
   refine (s_row (xs := [(0, Operand.tmp 21)]) (vs := [(0, Value.int .i64 (((1536 + c) * 1048576) + f))]) (cs := #[Value.int .i64 (((1536 + c) * 1048576) + f)]) p83_5_3 hE wn_none rfl Try.underlying22 rfl (by kernel_rfl) ?_)
   clear hE a; intro g5_3 w117 z118 B_g5_3 hk a hE
   have n_g1_g5_3 : g1 ≠ g5_3 := ne_new B_g1 z118
   have n_g5_7_g5_3 : g5_7 ≠ g5_3 := ne_new B_g5_7 z118
   have n_g5_1_g5_3 : g5_1 ≠ g5_3 := ne_new B_g5_1 z118
   have n_g5_13_g5_3 : g5_13 ≠ g5_3 := ne_new B_g5_13 z118
   have z_0_g5_3 := Nat.le_trans K_0.kept.1 z118
   replace B_g1 := kp_blk B_g1 hk (fun h => h)
   replace B_g5_7 := kp_blk B_g5_7 hk (fun h => h)
   replace B_g5_1 := kp_blk B_g5_1 hk (fun h => h)
   replace B_g5_13 := kp_blk B_g5_13 hk (fun h => h)
   replace K_0 := K_0.then_ hk (fun _ h => h.elim)
   clear hk
   refine ⟨⟨B_g1, trivial⟩, ?_⟩
   have n_g5_3_g5_7 := Ne.symm n_g5_7_g5_3
   exact dr5_18 g5_1 g5_13 g5_3 g5_7 _ a (En.sub hE ⟨rfl, rfl, rfl, rfl, rfl, rfl, rfl, rfl, rfl, rfl, rfl, rfl, rfl, rfl, rfl, rfl, rfl, rfl, rfl, trivial⟩) B_g1 B_g5_7 B_g5_13 B_g5_3 B_g5_1 n_g1_g5_1 n_g1_g5_13 n_g1_g5_3 n_g1_g5_7 n_g5_1_g5_13 n_g5_1_g5_3 n_g5_1_g5_7 n_g5_13_g5_3 n_g5_13_g5_7 n_g5_3_g5_7 z_0_g5_1 z_0_g5_13 z_0_g5_3 z_0_g5_7 K_0
  exact all_nil
 have dr5_13 : ∀ (g5_1 : Nat) (g5_13 : Nat) (g5_3 : Nat) (W : World) (a : Act), En 48 a [(0, Value.agg (([Value.int .i64 c, Value.int .i64 f, Value.int .i64 l, Value.int .i64 x, Value.int .i64 h] ++ b16 s ++ b16 d)).toArray), (1, Value.pointer (some ⟨g1, 0, none⟩)), (2, Value.slice none 0 0), (3, Value.int .i64 0), (4, Value.int .i64 0), (5, Value.int .i64 (((1536 + c) * 1048576) + f)), (10, Value.bool false), (19, Value.agg #[Value.slice none 0 0, Value.int .i64 0]), (20, Value.pointer (some ⟨g5_1, 0, none⟩)), (21, Value.int .i64 (((1536 + c) * 1048576) + f)), (22, Value.slice (some ⟨g5_3, 0, none⟩) 1 1), (24, Value.pointer (some ⟨g1, 2, none⟩)), (25, Value.int .i64 l), (28, Value.pointer (some ⟨g1, 3, none⟩)), (29, Value.int .i64 x), (30, Value.pointer (some ⟨g1, 4, none⟩)), (31, Value.int .i64 h), (32, Value.slice (some ⟨g5_13, 0, none⟩) 2 2)] → W.heap[g1]? = some (.cells (([Value.int .i64 c, Value.int .i64 f, Value.int .i64 l, Value.int .i64 x, Value.int .i64 h] ++ b16 s ++ b16 d)).toArray 27 (0, 0)) → W.heap[g5_1]? = some (.cells #[Value.slice none 0 0, Value.int .i64 0] 209 (0, 0)) → W.heap[g5_13]? = some (.cells #[Value.int .i64 x, Value.int .i64 h] 3 (0, 0)) → W.heap[g5_3]? = some (.cells #[Value.int .i64 (((1536 + c) * 1048576) + f)] 3 (0, 0)) → g1 ≠ g5_1 → g1 ≠ g5_13 → g1 ≠ g5_3 → g5_1 ≠ g5_13 → g5_1 ≠ g5_3 → g5_13 ≠ g5_3 → w.heap.size ≤ g5_1 → w.heap.size ≤ g5_13 → w.heap.size ≤ g5_3 → Kp w W (fun _ => False) → wpAnyH Try.prog .any (regOf Try.f83 5) QQ (fun W => W.heap[g1]? = some (.cells (([Value.int .i64 c, Value.int .i64 f, Value.int .i64 l, Value.int .i64 x, Value.int .i64 h] ++ b16 s ++ b16 d)).toArray 27 (0, 0)) ∧ True) 5 #[κ, κ, κ, κ, ι, κ, κ, ι, ι, κ, κ, κ, κ, κ, ι, ι] a W := by
  intro g5_1 g5_13 g5_3 w119 a hE B_g1 B_g5_1 B_g5_13 B_g5_3 n_g1_g5_1 n_g1_g5_13 n_g1_g5_3 n_g5_1_g5_13 n_g5_1_g5_3 n_g5_13_g5_3 z_0_g5_1 z_0_g5_13 z_0_g5_3 K_0
  refine d_all (rs := [4, 7]) (by kernel_rfl) rfl ?_
  refine all_cons (d_lit (listed' := #[κ, κ, κ, κ, κ, κ, κ, ι, ι, κ, κ, κ, κ, κ, ι, ι]) rfl ?_) ?_
  ·
   have hnb_g1 := blk_lt B_g1
   have hnb_g5_1 := blk_lt B_g5_1
   have hnb_g5_13 := blk_lt B_g5_13
   have hnb_g5_3 := blk_lt B_g5_3
   have hnz_0 := K_0.kept.1
   refine (s_call (xs := [Operand.tmp 20, Operand.const (Value.int IntKind.i64 4), Operand.tmp 22]) (args := [Value.pointer (some ⟨g5_1, 0, none⟩), Value.int .i64 4, Value.slice (some ⟨g5_3, 0, none⟩) 1 1]) p83_5_4 hE wn_none rfl rfl Try.func124 cl124 (chain_put g5_1 none (some ⟨g5_3, 0, none⟩) 0 1 4 ([]) ([((1536 + c) * 1048576) + f]) _ B_g5_1 (fun W hk => Kd.C_nil _ _) (fun W hk => C_blk (k := .i64) (l := [((1536 + c) * 1048576) + f]) (kp_blk B_g5_3 hk (Ne.symm n_g5_1_g5_3)) ⟨rfl, Nat.le_of_ble_eq_true rfl⟩ rfl) (Nat.le_of_ble_eq_true rfl) (fits4 c f hc hf) (Nat.le_of_ble_eq_true rfl)) ?_)
   rintro e w120 ⟨A5_4, c5_4, rfl, B_g5_1', O_q5_4, hk⟩
   replace B_g1 := kp_blk B_g1 hk n_g1_g5_1
   replace B_g5_13 := kp_blk B_g5_13 hk (Ne.symm n_g5_1_g5_13)
   replace B_g5_3 := kp_blk B_g5_3 hk (Ne.symm n_g5_1_g5_3)
   replace K_0 := K_0.then_ hk (fun k h => by rw [show k = g5_1 from h]; exact Or.inr z_0_g5_1)
   have Nb_q5_4_g1 : ¬ OB A5_4 g1 := fun h => by have := (own_ob O_q5_4 h).1; have := hnb_g1; omega
   have Nb_q5_4_g5_1 : ¬ OB A5_4 g5_1 := fun h => by have := (own_ob O_q5_4 h).1; have := hnb_g5_1; omega
   have Nb_q5_4_g5_13 : ¬ OB A5_4 g5_13 := fun h => by have := (own_ob O_q5_4 h).1; have := hnb_g5_13; omega
   have Nb_q5_4_g5_3 : ¬ OB A5_4 g5_3 := fun h => by have := (own_ob O_q5_4 h).1; have := hnb_g5_3; omega
   have Z_0_q5_4 : ∀ k, OB A5_4 k → (fun _ => False) k ∨ w.heap.size ≤ k := fun k h => .inr (by have := (own_ob O_q5_4 h).1; have := hnz_0; omega)
   replace O_q5_4 := own_lower O_q5_4 hnz_0
   replace B_g5_1 := B_g5_1'
   refine ⟨_, rfl, ?_⟩; clear hE a; intro a hE
   refine ⟨⟨B_g1, trivial⟩, ?_⟩
   exact dr5_17 A5_4 c5_4 g5_1 g5_13 g5_3 _ a (En.sub hE ⟨rfl, rfl, rfl, rfl, rfl, rfl, rfl, rfl, rfl, rfl, rfl, rfl, rfl, rfl, rfl, rfl, rfl, rfl, rfl, trivial⟩) B_g1 B_g5_3 B_g5_1 B_g5_13 n_g1_g5_1 n_g1_g5_13 n_g1_g5_3 n_g5_1_g5_13 n_g5_1_g5_3 n_g5_13_g5_3 z_0_g5_1 z_0_g5_13 z_0_g5_3 Nb_q5_4_g1 Nb_q5_4_g5_3 Nb_q5_4_g5_1 Nb_q5_4_g5_13 Z_0_q5_4 O_q5_4 K_0
  refine all_cons (d_lit (listed' := #[κ, κ, κ, κ, ι, κ, κ, κ, ι, κ, κ, κ, κ, κ, ι, ι]) rfl ?_) ?_
  ·
   refine (s_row (xs := [(0, Operand.tmp 25)]) (vs := [(0, Value.int .i64 l)]) (cs := #[Value.int .i64 l]) p83_5_7 hE wn_none rfl Try.underlying22 rfl (by kernel_rfl) ?_)
   clear hE a; intro g5_7 w121 z122 B_g5_7 hk a hE
   have n_g1_g5_7 : g1 ≠ g5_7 := ne_new B_g1 z122
   have n_g5_1_g5_7 : g5_1 ≠ g5_7 := ne_new B_g5_1 z122
   have n_g5_13_g5_7 : g5_13 ≠ g5_7 := ne_new B_g5_13 z122
   have n_g5_3_g5_7 : g5_3 ≠ g5_7 := ne_new B_g5_3 z122
   have z_0_g5_7 := Nat.le_trans K_0.kept.1 z122
   replace B_g1 := kp_blk B_g1 hk (fun h => h)
   replace B_g5_1 := kp_blk B_g5_1 hk (fun h => h)
   replace B_g5_13 := kp_blk B_g5_13 hk (fun h => h)
   replace B_g5_3 := kp_blk B_g5_3 hk (fun h => h)
   replace K_0 := K_0.then_ hk (fun _ h => h.elim)
   clear hk
   refine ⟨⟨B_g1, trivial⟩, ?_⟩
   exact dr5_18 g5_1 g5_13 g5_3 g5_7 _ a (En.sub hE ⟨rfl, rfl, rfl, rfl, rfl, rfl, rfl, rfl, rfl, rfl, rfl, rfl, rfl, rfl, rfl, rfl, rfl, rfl, rfl, trivial⟩) B_g1 B_g5_7 B_g5_13 B_g5_3 B_g5_1 n_g1_g5_1 n_g1_g5_13 n_g1_g5_3 n_g1_g5_7 n_g5_1_g5_13 n_g5_1_g5_3 n_g5_1_g5_7 n_g5_13_g5_3 n_g5_13_g5_7 n_g5_3_g5_7 z_0_g5_1 z_0_g5_13 z_0_g5_3 z_0_g5_7 K_0
  exact all_nil
 have dr5_12 : ∀ (A5_4 : Option Addr) (c5_4 : Nat) (g5_1 : Nat) (g5_3 : Nat) (W : World) (a : Act), En 48 a [(0, Value.agg (([Value.int .i64 c, Value.int .i64 f, Value.int .i64 l, Value.int .i64 x, Value.int .i64 h] ++ b16 s ++ b16 d)).toArray), (1, Value.pointer (some ⟨g1, 0, none⟩)), (2, Value.slice none 0 0), (3, Value.int .i64 0), (4, Value.int .i64 0), (5, Value.int .i64 (((1536 + c) * 1048576) + f)), (10, Value.bool false), (19, Value.agg #[Value.slice none 0 0, Value.int .i64 0]), (20, Value.pointer (some ⟨g5_1, 0, none⟩)), (21, Value.int .i64 (((1536 + c) * 1048576) + f)), (22, Value.slice (some ⟨g5_3, 0, none⟩) 1 1), (23, Value.pointer (some ⟨g5_1, 0, none⟩)), (24, Value.pointer (some ⟨g1, 2, none⟩)), (25, Value.int .i64 l), (28, Value.pointer (some ⟨g1, 3, none⟩)), (29, Value.int .i64 x), (30, Value.pointer (some ⟨g1, 4, none⟩)), (31, Value.int .i64 h)] → W.heap[g1]? = some (.cells (([Value.int .i64 c, Value.int .i64 f, Value.int .i64 l, Value.int .i64 x, Value.int .i64 h] ++ b16 s ++ b16 d)).toArray 27 (0, 0)) → W.heap[g5_3]? = some (.cells #[Value.int .i64 (((1536 + c) * 1048576) + f)] 3 (0, 0)) → W.heap[g5_1]? = some (.cells #[Value.slice A5_4 ((putF 4 [((1536 + c) * 1048576) + f]).length) c5_4, Value.int .i64 0] 209 (0, 0)) → g1 ≠ g5_1 → g1 ≠ g5_3 → g5_1 ≠ g5_3 → w.heap.size ≤ g5_1 → w.heap.size ≤ g5_3 → ¬ OB A5_4 g1 → ¬ OB A5_4 g5_3 → ¬ OB A5_4 g5_1 → (∀ k, OB A5_4 k → (fun _ => False) k ∨ w.heap.size ≤ k) → W.ownsRow w.heap.size 5 1 (.slice A5_4 ((putF 4 [((1536 + c) * 1048576) + f]).length) c5_4) ((putF 4 [((1536 + c) * 1048576) + f]).length) (encs (Value.int .u8) (putF 4 [((1536 + c) * 1048576) + f])) → Kp w W (fun _ => False) → wpAnyH Try.prog .any (regOf Try.f83 5) QQ (fun W => W.heap[g1]? = some (.cells (([Value.int .i64 c, Value.int .i64 f, Value.int .i64 l, Value.int .i64 x, Value.int .i64 h] ++ b16 s ++ b16 d)).toArray 27 (0, 0)) ∧ True) 5 #[κ, κ, κ, κ, κ, κ, κ, ι, ι, κ, κ, κ, κ, ι, ι, ι] a W := by
  intro A5_4 c5_4 g5_1 g5_3 w123 a hE B_g1 B_g5_3 B_g5_1 n_g1_g5_1 n_g1_g5_3 n_g5_1_g5_3 z_0_g5_1 z_0_g5_3 Nb_q5_4_g1 Nb_q5_4_g5_3 Nb_q5_4_g5_1 Z_0_q5_4 O_q5_4 K_0
  refine d_all (rs := [7, 13]) (by kernel_rfl) rfl ?_
  refine all_cons (d_lit (listed' := #[κ, κ, κ, κ, κ, κ, κ, κ, ι, κ, κ, κ, κ, ι, ι, ι]) rfl ?_) ?_
  ·
   refine (s_row (xs := [(0, Operand.tmp 25)]) (vs := [(0, Value.int .i64 l)]) (cs := #[Value.int .i64 l]) p83_5_7 hE wn_none rfl Try.underlying22 rfl (by kernel_rfl) ?_)
   clear hE a; intro g5_7 w124 z125 B_g5_7 hk a hE
   have n_g1_g5_7 : g1 ≠ g5_7 := ne_new B_g1 z125
   have n_g5_3_g5_7 : g5_3 ≠ g5_7 := ne_new B_g5_3 z125
   have n_g5_1_g5_7 : g5_1 ≠ g5_7 := ne_new B_g5_1 z125
   have z_0_g5_7 := Nat.le_trans K_0.kept.1 z125
   have Nb_q5_4_g5_7 : ¬ OB A5_4 g5_7 := fun h => by have := (own_ob O_q5_4 h).2; omega
   replace B_g1 := kp_blk B_g1 hk (fun h => h)
   replace B_g5_3 := kp_blk B_g5_3 hk (fun h => h)
   replace B_g5_1 := kp_blk B_g5_1 hk (fun h => h)
   replace O_q5_4 := own_keep O_q5_4 hk (fun _ _ h => h)
   replace K_0 := K_0.then_ hk (fun _ h => h.elim)
   clear hk
   refine ⟨⟨B_g1, trivial⟩, ?_⟩
   exact dr5_16 A5_4 c5_4 g5_1 g5_3 g5_7 _ a (En.sub hE ⟨rfl, rfl, rfl, rfl, rfl, rfl, rfl, rfl, rfl, rfl, rfl, rfl, rfl, rfl, rfl, rfl, rfl, rfl, rfl, trivial⟩) B_g1 B_g5_3 B_g5_1 B_g5_7 n_g1_g5_1 n_g1_g5_3 n_g1_g5_7 n_g5_1_g5_3 n_g5_1_g5_7 n_g5_3_g5_7 z_0_g5_1 z_0_g5_3 z_0_g5_7 Nb_q5_4_g1 Nb_q5_4_g5_3 Nb_q5_4_g5_1 Nb_q5_4_g5_7 Z_0_q5_4 O_q5_4 K_0
  refine all_cons (d_lit (listed' := #[κ, κ, κ, κ, κ, κ, κ, ι, ι, κ, κ, κ, κ, κ, ι, ι]) rfl ?_) ?_
  ·
   refine (s_row (xs := [(0, Operand.tmp 29), (1, Operand.tmp 31)]) (vs := [(0, Value.int .i64 x), (1, Value.int .i64 h)]) (cs := #[Value.int .i64 x, Value.int .i64 h]) p83_5_13 hE wn_none rfl Try.underlying22 rfl (by kernel_rfl) ?_)
   clear hE a; intro g5_13 w126 z127 B_g5_13 hk a hE
   have n_g1_g5_13 : g1 ≠ g5_13 := ne_new B_g1 z127
   have n_g5_3_g5_13 : g5_3 ≠ g5_13 := ne_new B_g5_3 z127
   have n_g5_1_g5_13 : g5_1 ≠ g5_13 := ne_new B_g5_1 z127
   have z_0_g5_13 := Nat.le_trans K_0.kept.1 z127
   have Nb_q5_4_g5_13 : ¬ OB A5_4 g5_13 := fun h => by have := (own_ob O_q5_4 h).2; omega
   replace B_g1 := kp_blk B_g1 hk (fun h => h)
   replace B_g5_3 := kp_blk B_g5_3 hk (fun h => h)
   replace B_g5_1 := kp_blk B_g5_1 hk (fun h => h)
   replace O_q5_4 := own_keep O_q5_4 hk (fun _ _ h => h)
   replace K_0 := K_0.then_ hk (fun _ h => h.elim)
   clear hk
   refine ⟨⟨B_g1, trivial⟩, ?_⟩
   have n_g5_13_g5_3 := Ne.symm n_g5_3_g5_13
   exact dr5_17 A5_4 c5_4 g5_1 g5_13 g5_3 _ a (En.sub hE ⟨rfl, rfl, rfl, rfl, rfl, rfl, rfl, rfl, rfl, rfl, rfl, rfl, rfl, rfl, rfl, rfl, rfl, rfl, rfl, trivial⟩) B_g1 B_g5_3 B_g5_1 B_g5_13 n_g1_g5_1 n_g1_g5_13 n_g1_g5_3 n_g5_1_g5_13 n_g5_1_g5_3 n_g5_13_g5_3 z_0_g5_1 z_0_g5_13 z_0_g5_3 Nb_q5_4_g1 Nb_q5_4_g5_3 Nb_q5_4_g5_1 Nb_q5_4_g5_13 Z_0_q5_4 O_q5_4 K_0
  exact all_nil
 have dr5_11 : ∀ (g5_13 : Nat) (g5_3 : Nat) (g5_7 : Nat) (W : World) (a : Act), En 48 a [(0, Value.agg (([Value.int .i64 c, Value.int .i64 f, Value.int .i64 l, Value.int .i64 x, Value.int .i64 h] ++ b16 s ++ b16 d)).toArray), (1, Value.pointer (some ⟨g1, 0, none⟩)), (2, Value.slice none 0 0), (3, Value.int .i64 0), (4, Value.int .i64 0), (5, Value.int .i64 (((1536 + c) * 1048576) + f)), (10, Value.bool false), (19, Value.agg #[Value.slice none 0 0, Value.int .i64 0]), (21, Value.int .i64 (((1536 + c) * 1048576) + f)), (22, Value.slice (some ⟨g5_3, 0, none⟩) 1 1), (24, Value.pointer (some ⟨g1, 2, none⟩)), (25, Value.int .i64 l), (26, Value.slice (some ⟨g5_7, 0, none⟩) 1 1), (28, Value.pointer (some ⟨g1, 3, none⟩)), (29, Value.int .i64 x), (30, Value.pointer (some ⟨g1, 4, none⟩)), (31, Value.int .i64 h), (32, Value.slice (some ⟨g5_13, 0, none⟩) 2 2)] → W.heap[g1]? = some (.cells (([Value.int .i64 c, Value.int .i64 f, Value.int .i64 l, Value.int .i64 x, Value.int .i64 h] ++ b16 s ++ b16 d)).toArray 27 (0, 0)) → W.heap[g5_7]? = some (.cells #[Value.int .i64 l] 3 (0, 0)) → W.heap[g5_13]? = some (.cells #[Value.int .i64 x, Value.int .i64 h] 3 (0, 0)) → W.heap[g5_3]? = some (.cells #[Value.int .i64 (((1536 + c) * 1048576) + f)] 3 (0, 0)) → g1 ≠ g5_13 → g1 ≠ g5_3 → g1 ≠ g5_7 → g5_13 ≠ g5_3 → g5_13 ≠ g5_7 → g5_3 ≠ g5_7 → w.heap.size ≤ g5_13 → w.heap.size ≤ g5_3 → w.heap.size ≤ g5_7 → Kp w W (fun _ => False) → wpAnyH Try.prog .any (regOf Try.f83 5) QQ (fun W => W.heap[g1]? = some (.cells (([Value.int .i64 c, Value.int .i64 f, Value.int .i64 l, Value.int .i64 x, Value.int .i64 h] ++ b16 s ++ b16 d)).toArray 27 (0, 0)) ∧ True) 5 #[κ, ι, κ, κ, ι, κ, κ, κ, ι, κ, κ, κ, κ, κ, ι, ι] a W := by
  intro g5_13 g5_3 g5_7 w128 a hE B_g1 B_g5_7 B_g5_13 B_g5_3 n_g1_g5_13 n_g1_g5_3 n_g1_g5_7 n_g5_13_g5_3 n_g5_13_g5_7 n_g5_3_g5_7 z_0_g5_13 z_0_g5_3 z_0_g5_7 K_0
  refine d_all (rs := [1]) (by kernel_rfl) rfl ?_
  refine all_cons (d_lit (listed' := #[κ, κ, κ, κ, ι, κ, κ, κ, ι, κ, κ, κ, κ, κ, ι, ι]) rfl ?_) ?_
  ·
   refine (s_box p83_5_1 hE wn_none rfl rfl ?_)
   clear hE a; intro g5_1 w129 z130 B_g5_1 hk a hE
   replace B_g5_1 : w129.heap[g5_1]? = some (.cells #[Value.slice none 0 0, Value.int .i64 0] 209 (0, 0)) := B_g5_1
   have n_g1_g5_1 : g1 ≠ g5_1 := ne_new B_g1 z130
   have n_g5_7_g5_1 : g5_7 ≠ g5_1 := ne_new B_g5_7 z130
   have n_g5_13_g5_1 : g5_13 ≠ g5_1 := ne_new B_g5_13 z130
   have n_g5_3_g5_1 : g5_3 ≠ g5_1 := ne_new B_g5_3 z130
   have z_0_g5_1 := Nat.le_trans K_0.kept.1 z130
   replace B_g1 := kp_blk B_g1 hk (fun h => h)
   replace B_g5_7 := kp_blk B_g5_7 hk (fun h => h)
   replace B_g5_13 := kp_blk B_g5_13 hk (fun h => h)
   replace B_g5_3 := kp_blk B_g5_3 hk (fun h => h)
   replace K_0 := K_0.then_ hk (fun _ h => h.elim)
   clear hk
   refine ⟨⟨B_g1, trivial⟩, ?_⟩
   have n_g5_1_g5_13 := Ne.symm n_g5_13_g5_1
   have n_g5_1_g5_3 := Ne.symm n_g5_3_g5_1
   have n_g5_1_g5_7 := Ne.symm n_g5_7_g5_1
   exact dr5_18 g5_1 g5_13 g5_3 g5_7 _ a (En.sub hE ⟨rfl, rfl, rfl, rfl, rfl, rfl, rfl, rfl, rfl, rfl, rfl, rfl, rfl, rfl, rfl, rfl, rfl, rfl, rfl, trivial⟩) B_g1 B_g5_7 B_g5_13 B_g5_3 B_g5_1 n_g1_g5_1 n_g1_g5_13 n_g1_g5_3 n_g1_g5_7 n_g5_1_g5_13 n_g5_1_g5_3 n_g5_1_g5_7 n_g5_13_g5_3 n_g5_13_g5_7 n_g5_3_g5_7 z_0_g5_1 z_0_g5_13 z_0_g5_3 z_0_g5_7 K_0
  exact all_nil
 have dr5_10 : ∀ (g5_3 : Nat) (g5_7 : Nat) (W : World) (a : Act), En 48 a [(0, Value.agg (([Value.int .i64 c, Value.int .i64 f, Value.int .i64 l, Value.int .i64 x, Value.int .i64 h] ++ b16 s ++ b16 d)).toArray), (1, Value.pointer (some ⟨g1, 0, none⟩)), (2, Value.slice none 0 0), (3, Value.int .i64 0), (4, Value.int .i64 0), (5, Value.int .i64 (((1536 + c) * 1048576) + f)), (10, Value.bool false), (19, Value.agg #[Value.slice none 0 0, Value.int .i64 0]), (21, Value.int .i64 (((1536 + c) * 1048576) + f)), (22, Value.slice (some ⟨g5_3, 0, none⟩) 1 1), (24, Value.pointer (some ⟨g1, 2, none⟩)), (25, Value.int .i64 l), (26, Value.slice (some ⟨g5_7, 0, none⟩) 1 1), (28, Value.pointer (some ⟨g1, 3, none⟩)), (29, Value.int .i64 x), (30, Value.pointer (some ⟨g1, 4, none⟩)), (31, Value.int .i64 h)] → W.heap[g1]? = some (.cells (([Value.int .i64 c, Value.int .i64 f, Value.int .i64 l, Value.int .i64 x, Value.int .i64 h] ++ b16 s ++ b16 d)).toArray 27 (0, 0)) → W.heap[g5_3]? = some (.cells #[Value.int .i64 (((1536 + c) * 1048576) + f)] 3 (0, 0)) → W.heap[g5_7]? = some (.cells #[Value.int .i64 l] 3 (0, 0)) → g1 ≠ g5_3 → g1 ≠ g5_7 → g5_3 ≠ g5_7 → w.heap.size ≤ g5_3 → w.heap.size ≤ g5_7 → Kp w W (fun _ => False) → wpAnyH Try.prog .any (regOf Try.f83 5) QQ (fun W => W.heap[g1]? = some (.cells (([Value.int .i64 c, Value.int .i64 f, Value.int .i64 l, Value.int .i64 x, Value.int .i64 h] ++ b16 s ++ b16 d)).toArray 27 (0, 0)) ∧ True) 6 #[κ, ι, κ, κ, ι, κ, κ, κ, ι, κ, κ, κ, κ, ι, ι, ι] a W := by
  intro g5_3 g5_7 w131 a hE B_g1 B_g5_3 B_g5_7 n_g1_g5_3 n_g1_g5_7 n_g5_3_g5_7 z_0_g5_3 z_0_g5_7 K_0
  refine d_all (rs := [1, 13]) (by kernel_rfl) rfl ?_
  refine all_cons (d_lit (listed' := #[κ, κ, κ, κ, ι, κ, κ, κ, ι, κ, κ, κ, κ, ι, ι, ι]) rfl ?_) ?_
  ·
   refine (s_box p83_5_1 hE wn_none rfl rfl ?_)
   clear hE a; intro g5_1 w132 z133 B_g5_1 hk a hE
   replace B_g5_1 : w132.heap[g5_1]? = some (.cells #[Value.slice none 0 0, Value.int .i64 0] 209 (0, 0)) := B_g5_1
   have n_g1_g5_1 : g1 ≠ g5_1 := ne_new B_g1 z133
   have n_g5_3_g5_1 : g5_3 ≠ g5_1 := ne_new B_g5_3 z133
   have n_g5_7_g5_1 : g5_7 ≠ g5_1 := ne_new B_g5_7 z133
   have z_0_g5_1 := Nat.le_trans K_0.kept.1 z133
   replace B_g1 := kp_blk B_g1 hk (fun h => h)
   replace B_g5_3 := kp_blk B_g5_3 hk (fun h => h)
   replace B_g5_7 := kp_blk B_g5_7 hk (fun h => h)
   replace K_0 := K_0.then_ hk (fun _ h => h.elim)
   clear hk
   refine ⟨⟨B_g1, trivial⟩, ?_⟩
   have n_g5_1_g5_3 := Ne.symm n_g5_3_g5_1
   have n_g5_1_g5_7 := Ne.symm n_g5_7_g5_1
   exact dr5_15 g5_1 g5_3 g5_7 _ a (En.sub hE ⟨rfl, rfl, rfl, rfl, rfl, rfl, rfl, rfl, rfl, rfl, rfl, rfl, rfl, rfl, rfl, rfl, rfl, rfl, trivial⟩) B_g1 B_g5_7 B_g5_1 B_g5_3 n_g1_g5_1 n_g1_g5_3 n_g1_g5_7 n_g5_1_g5_3 n_g5_1_g5_7 n_g5_3_g5_7 z_0_g5_1 z_0_g5_3 z_0_g5_7 K_0
  refine all_cons (d_lit (listed' := #[κ, ι, κ, κ, ι, κ, κ, κ, ι, κ, κ, κ, κ, κ, ι, ι]) rfl ?_) ?_
  ·
   refine (s_row (xs := [(0, Operand.tmp 29), (1, Operand.tmp 31)]) (vs := [(0, Value.int .i64 x), (1, Value.int .i64 h)]) (cs := #[Value.int .i64 x, Value.int .i64 h]) p83_5_13 hE wn_none rfl Try.underlying22 rfl (by kernel_rfl) ?_)
   clear hE a; intro g5_13 w134 z135 B_g5_13 hk a hE
   have n_g1_g5_13 : g1 ≠ g5_13 := ne_new B_g1 z135
   have n_g5_3_g5_13 : g5_3 ≠ g5_13 := ne_new B_g5_3 z135
   have n_g5_7_g5_13 : g5_7 ≠ g5_13 := ne_new B_g5_7 z135
   have z_0_g5_13 := Nat.le_trans K_0.kept.1 z135
   replace B_g1 := kp_blk B_g1 hk (fun h => h)
   replace B_g5_3 := kp_blk B_g5_3 hk (fun h => h)
   replace B_g5_7 := kp_blk B_g5_7 hk (fun h => h)
   replace K_0 := K_0.then_ hk (fun _ h => h.elim)
   clear hk
   refine ⟨⟨B_g1, trivial⟩, ?_⟩
   have n_g5_13_g5_3 := Ne.symm n_g5_3_g5_13
   have n_g5_13_g5_7 := Ne.symm n_g5_7_g5_13
   exact dr5_11 g5_13 g5_3 g5_7 _ a (En.sub hE ⟨rfl, rfl, rfl, rfl, rfl, rfl, rfl, rfl, rfl, rfl, rfl, rfl, rfl, rfl, rfl, rfl, rfl, rfl, trivial⟩) B_g1 B_g5_7 B_g5_13 B_g5_3 n_g1_g5_13 n_g1_g5_3 n_g1_g5_7 n_g5_13_g5_3 n_g5_13_g5_7 n_g5_3_g5_7 z_0_g5_13 z_0_g5_3 z_0_g5_7 K_0
  exact all_nil
 have dr5_9 : ∀ (g5_13 : Nat) (g5_3 : Nat) (W : World) (a : Act), En 48 a [(0, Value.agg (([Value.int .i64 c, Value.int .i64 f, Value.int .i64 l, Value.int .i64 x, Value.int .i64 h] ++ b16 s ++ b16 d)).toArray), (1, Value.pointer (some ⟨g1, 0, none⟩)), (2, Value.slice none 0 0), (3, Value.int .i64 0), (4, Value.int .i64 0), (5, Value.int .i64 (((1536 + c) * 1048576) + f)), (10, Value.bool false), (19, Value.agg #[Value.slice none 0 0, Value.int .i64 0]), (21, Value.int .i64 (((1536 + c) * 1048576) + f)), (22, Value.slice (some ⟨g5_3, 0, none⟩) 1 1), (24, Value.pointer (some ⟨g1, 2, none⟩)), (25, Value.int .i64 l), (28, Value.pointer (some ⟨g1, 3, none⟩)), (29, Value.int .i64 x), (30, Value.pointer (some ⟨g1, 4, none⟩)), (31, Value.int .i64 h), (32, Value.slice (some ⟨g5_13, 0, none⟩) 2 2)] → W.heap[g1]? = some (.cells (([Value.int .i64 c, Value.int .i64 f, Value.int .i64 l, Value.int .i64 x, Value.int .i64 h] ++ b16 s ++ b16 d)).toArray 27 (0, 0)) → W.heap[g5_3]? = some (.cells #[Value.int .i64 (((1536 + c) * 1048576) + f)] 3 (0, 0)) → W.heap[g5_13]? = some (.cells #[Value.int .i64 x, Value.int .i64 h] 3 (0, 0)) → g1 ≠ g5_13 → g1 ≠ g5_3 → g5_13 ≠ g5_3 → w.heap.size ≤ g5_13 → w.heap.size ≤ g5_3 → Kp w W (fun _ => False) → wpAnyH Try.prog .any (regOf Try.f83 5) QQ (fun W => W.heap[g1]? = some (.cells (([Value.int .i64 c, Value.int .i64 f, Value.int .i64 l, Value.int .i64 x, Value.int .i64 h] ++ b16 s ++ b16 d)).toArray 27 (0, 0)) ∧ True) 6 #[κ, ι, κ, κ, ι, κ, κ, ι, ι, κ, κ, κ, κ, κ, ι, ι] a W := by
  intro g5_13 g5_3 w136 a hE B_g1 B_g5_3 B_g5_13 n_g1_g5_13 n_g1_g5_3 n_g5_13_g5_3 z_0_g5_13 z_0_g5_3 K_0
  refine d_all (rs := [1, 7]) (by kernel_rfl) rfl ?_
  refine all_cons (d_lit (listed' := #[κ, κ, κ, κ, ι, κ, κ, ι, ι, κ, κ, κ, κ, κ, ι, ι]) rfl ?_) ?_
  ·
   refine (s_box p83_5_1 hE wn_none rfl rfl ?_)
   clear hE a; intro g5_1 w137 z138 B_g5_1 hk a hE
   replace B_g5_1 : w137.heap[g5_1]? = some (.cells #[Value.slice none 0 0, Value.int .i64 0] 209 (0, 0)) := B_g5_1
   have n_g1_g5_1 : g1 ≠ g5_1 := ne_new B_g1 z138
   have n_g5_3_g5_1 : g5_3 ≠ g5_1 := ne_new B_g5_3 z138
   have n_g5_13_g5_1 : g5_13 ≠ g5_1 := ne_new B_g5_13 z138
   have z_0_g5_1 := Nat.le_trans K_0.kept.1 z138
   replace B_g1 := kp_blk B_g1 hk (fun h => h)
   replace B_g5_3 := kp_blk B_g5_3 hk (fun h => h)
   replace B_g5_13 := kp_blk B_g5_13 hk (fun h => h)
   replace K_0 := K_0.then_ hk (fun _ h => h.elim)
   clear hk
   refine ⟨⟨B_g1, trivial⟩, ?_⟩
   have n_g5_1_g5_13 := Ne.symm n_g5_13_g5_1
   have n_g5_1_g5_3 := Ne.symm n_g5_3_g5_1
   exact dr5_13 g5_1 g5_13 g5_3 _ a (En.sub hE ⟨rfl, rfl, rfl, rfl, rfl, rfl, rfl, rfl, rfl, rfl, rfl, rfl, rfl, rfl, rfl, rfl, rfl, rfl, trivial⟩) B_g1 B_g5_1 B_g5_13 B_g5_3 n_g1_g5_1 n_g1_g5_13 n_g1_g5_3 n_g5_1_g5_13 n_g5_1_g5_3 n_g5_13_g5_3 z_0_g5_1 z_0_g5_13 z_0_g5_3 K_0
  refine all_cons (d_lit (listed' := #[κ, ι, κ, κ, ι, κ, κ, κ, ι, κ, κ, κ, κ, κ, ι, ι]) rfl ?_) ?_
  ·
   refine (s_row (xs := [(0, Operand.tmp 25)]) (vs := [(0, Value.int .i64 l)]) (cs := #[Value.int .i64 l]) p83_5_7 hE wn_none rfl Try.underlying22 rfl (by kernel_rfl) ?_)
   clear hE a; intro g5_7 w139 z140 B_g5_7 hk a hE
   have n_g1_g5_7 : g1 ≠ g5_7 := ne_new B_g1 z140
   have n_g5_3_g5_7 : g5_3 ≠ g5_7 := ne_new B_g5_3 z140
   have n_g5_13_g5_7 : g5_13 ≠ g5_7 := ne_new B_g5_13 z140
   have z_0_g5_7 := Nat.le_trans K_0.kept.1 z140
   replace B_g1 := kp_blk B_g1 hk (fun h => h)
   replace B_g5_3 := kp_blk B_g5_3 hk (fun h => h)
   replace B_g5_13 := kp_blk B_g5_13 hk (fun h => h)
   replace K_0 := K_0.then_ hk (fun _ h => h.elim)
   clear hk
   refine ⟨⟨B_g1, trivial⟩, ?_⟩
   exact dr5_11 g5_13 g5_3 g5_7 _ a (En.sub hE ⟨rfl, rfl, rfl, rfl, rfl, rfl, rfl, rfl, rfl, rfl, rfl, rfl, rfl, rfl, rfl, rfl, rfl, rfl, trivial⟩) B_g1 B_g5_7 B_g5_13 B_g5_3 n_g1_g5_13 n_g1_g5_3 n_g1_g5_7 n_g5_13_g5_3 n_g5_13_g5_7 n_g5_3_g5_7 z_0_g5_13 z_0_g5_3 z_0_g5_7 K_0
  exact all_nil
 have dr5_8 : ∀ (g5_1 : Nat) (g5_3 : Nat) (W : World) (a : Act), En 48 a [(0, Value.agg (([Value.int .i64 c, Value.int .i64 f, Value.int .i64 l, Value.int .i64 x, Value.int .i64 h] ++ b16 s ++ b16 d)).toArray), (1, Value.pointer (some ⟨g1, 0, none⟩)), (2, Value.slice none 0 0), (3, Value.int .i64 0), (4, Value.int .i64 0), (5, Value.int .i64 (((1536 + c) * 1048576) + f)), (10, Value.bool false), (19, Value.agg #[Value.slice none 0 0, Value.int .i64 0]), (20, Value.pointer (some ⟨g5_1, 0, none⟩)), (21, Value.int .i64 (((1536 + c) * 1048576) + f)), (22, Value.slice (some ⟨g5_3, 0, none⟩) 1 1), (24, Value.pointer (some ⟨g1, 2, none⟩)), (25, Value.int .i64 l), (28, Value.pointer (some ⟨g1, 3, none⟩)), (29, Value.int .i64 x), (30, Value.pointer (some ⟨g1, 4, none⟩)), (31, Value.int .i64 h)] → W.heap[g1]? = some (.cells (([Value.int .i64 c, Value.int .i64 f, Value.int .i64 l, Value.int .i64 x, Value.int .i64 h] ++ b16 s ++ b16 d)).toArray 27 (0, 0)) → W.heap[g5_3]? = some (.cells #[Value.int .i64 (((1536 + c) * 1048576) + f)] 3 (0, 0)) → W.heap[g5_1]? = some (.cells #[Value.slice none 0 0, Value.int .i64 0] 209 (0, 0)) → g1 ≠ g5_1 → g1 ≠ g5_3 → g5_1 ≠ g5_3 → w.heap.size ≤ g5_1 → w.heap.size ≤ g5_3 → Kp w W (fun _ => False) → wpAnyH Try.prog .any (regOf Try.f83 5) QQ (fun W => W.heap[g1]? = some (.cells (([Value.int .i64 c, Value.int .i64 f, Value.int .i64 l, Value.int .i64 x, Value.int .i64 h] ++ b16 s ++ b16 d)).toArray 27 (0, 0)) ∧ True) 6 #[κ, κ, κ, κ, ι, κ, κ, ι, ι, κ, κ, κ, κ, ι, ι, ι] a W := by
  intro g5_1 g5_3 w141 a hE B_g1 B_g5_3 B_g5_1 n_g1_g5_1 n_g1_g5_3 n_g5_1_g5_3 z_0_g5_1 z_0_g5_3 K_0
  refine d_all (rs := [4, 7, 13]) (by kernel_rfl) rfl ?_
  refine all_cons (d_lit (listed' := #[κ, κ, κ, κ, κ, κ, κ, ι, ι, κ, κ, κ, κ, ι, ι, ι]) rfl ?_) ?_
  ·
   have hnb_g1 := blk_lt B_g1
   have hnb_g5_3 := blk_lt B_g5_3
   have hnb_g5_1 := blk_lt B_g5_1
   have hnz_0 := K_0.kept.1
   refine (s_call (xs := [Operand.tmp 20, Operand.const (Value.int IntKind.i64 4), Operand.tmp 22]) (args := [Value.pointer (some ⟨g5_1, 0, none⟩), Value.int .i64 4, Value.slice (some ⟨g5_3, 0, none⟩) 1 1]) p83_5_4 hE wn_none rfl rfl Try.func124 cl124 (chain_put g5_1 none (some ⟨g5_3, 0, none⟩) 0 1 4 ([]) ([((1536 + c) * 1048576) + f]) _ B_g5_1 (fun W hk => Kd.C_nil _ _) (fun W hk => C_blk (k := .i64) (l := [((1536 + c) * 1048576) + f]) (kp_blk B_g5_3 hk (Ne.symm n_g5_1_g5_3)) ⟨rfl, Nat.le_of_ble_eq_true rfl⟩ rfl) (Nat.le_of_ble_eq_true rfl) (fits4 c f hc hf) (Nat.le_of_ble_eq_true rfl)) ?_)
   rintro e w142 ⟨A5_4, c5_4, rfl, B_g5_1', O_q5_4, hk⟩
   replace B_g1 := kp_blk B_g1 hk n_g1_g5_1
   replace B_g5_3 := kp_blk B_g5_3 hk (Ne.symm n_g5_1_g5_3)
   replace K_0 := K_0.then_ hk (fun k h => by rw [show k = g5_1 from h]; exact Or.inr z_0_g5_1)
   have Nb_q5_4_g1 : ¬ OB A5_4 g1 := fun h => by have := (own_ob O_q5_4 h).1; have := hnb_g1; omega
   have Nb_q5_4_g5_3 : ¬ OB A5_4 g5_3 := fun h => by have := (own_ob O_q5_4 h).1; have := hnb_g5_3; omega
   have Nb_q5_4_g5_1 : ¬ OB A5_4 g5_1 := fun h => by have := (own_ob O_q5_4 h).1; have := hnb_g5_1; omega
   have Z_0_q5_4 : ∀ k, OB A5_4 k → (fun _ => False) k ∨ w.heap.size ≤ k := fun k h => .inr (by have := (own_ob O_q5_4 h).1; have := hnz_0; omega)
   replace O_q5_4 := own_lower O_q5_4 hnz_0
   replace B_g5_1 := B_g5_1'
   refine ⟨_, rfl, ?_⟩; clear hE a; intro a hE
   refine ⟨⟨B_g1, trivial⟩, ?_⟩
   exact dr5_12 A5_4 c5_4 g5_1 g5_3 _ a (En.sub hE ⟨rfl, rfl, rfl, rfl, rfl, rfl, rfl, rfl, rfl, rfl, rfl, rfl, rfl, rfl, rfl, rfl, rfl, rfl, trivial⟩) B_g1 B_g5_3 B_g5_1 n_g1_g5_1 n_g1_g5_3 n_g5_1_g5_3 z_0_g5_1 z_0_g5_3 Nb_q5_4_g1 Nb_q5_4_g5_3 Nb_q5_4_g5_1 Z_0_q5_4 O_q5_4 K_0
  refine all_cons (d_lit (listed' := #[κ, κ, κ, κ, ι, κ, κ, κ, ι, κ, κ, κ, κ, ι, ι, ι]) rfl ?_) ?_
  ·
   refine (s_row (xs := [(0, Operand.tmp 25)]) (vs := [(0, Value.int .i64 l)]) (cs := #[Value.int .i64 l]) p83_5_7 hE wn_none rfl Try.underlying22 rfl (by kernel_rfl) ?_)
   clear hE a; intro g5_7 w143 z144 B_g5_7 hk a hE
   have n_g1_g5_7 : g1 ≠ g5_7 := ne_new B_g1 z144
   have n_g5_3_g5_7 : g5_3 ≠ g5_7 := ne_new B_g5_3 z144
   have n_g5_1_g5_7 : g5_1 ≠ g5_7 := ne_new B_g5_1 z144
   have z_0_g5_7 := Nat.le_trans K_0.kept.1 z144
   replace B_g1 := kp_blk B_g1 hk (fun h => h)
   replace B_g5_3 := kp_blk B_g5_3 hk (fun h => h)
   replace B_g5_1 := kp_blk B_g5_1 hk (fun h => h)
   replace K_0 := K_0.then_ hk (fun _ h => h.elim)
   clear hk
   refine ⟨⟨B_g1, trivial⟩, ?_⟩
   exact dr5_15 g5_1 g5_3 g5_7 _ a (En.sub hE ⟨rfl, rfl, rfl, rfl, rfl, rfl, rfl, rfl, rfl, rfl, rfl, rfl, rfl, rfl, rfl, rfl, rfl, rfl, trivial⟩) B_g1 B_g5_7 B_g5_1 B_g5_3 n_g1_g5_1 n_g1_g5_3 n_g1_g5_7 n_g5_1_g5_3 n_g5_1_g5_7 n_g5_3_g5_7 z_0_g5_1 z_0_g5_3 z_0_g5_7 K_0
  refine all_cons (d_lit (listed' := #[κ, κ, κ, κ, ι, κ, κ, ι, ι, κ, κ, κ, κ, κ, ι, ι]) rfl ?_) ?_
  ·
   refine (s_row (xs := [(0, Operand.tmp 29), (1, Operand.tmp 31)]) (vs := [(0, Value.int .i64 x), (1, Value.int .i64 h)]) (cs := #[Value.int .i64 x, Value.int .i64 h]) p83_5_13 hE wn_none rfl Try.underlying22 rfl (by kernel_rfl) ?_)
   clear hE a; intro g5_13 w145 z146 B_g5_13 hk a hE
   have n_g1_g5_13 : g1 ≠ g5_13 := ne_new B_g1 z146
   have n_g5_3_g5_13 : g5_3 ≠ g5_13 := ne_new B_g5_3 z146
   have n_g5_1_g5_13 : g5_1 ≠ g5_13 := ne_new B_g5_1 z146
   have z_0_g5_13 := Nat.le_trans K_0.kept.1 z146
   replace B_g1 := kp_blk B_g1 hk (fun h => h)
   replace B_g5_3 := kp_blk B_g5_3 hk (fun h => h)
   replace B_g5_1 := kp_blk B_g5_1 hk (fun h => h)
   replace K_0 := K_0.then_ hk (fun _ h => h.elim)
   clear hk
   refine ⟨⟨B_g1, trivial⟩, ?_⟩
   have n_g5_13_g5_3 := Ne.symm n_g5_3_g5_13
   exact dr5_13 g5_1 g5_13 g5_3 _ a (En.sub hE ⟨rfl, rfl, rfl, rfl, rfl, rfl, rfl, rfl, rfl, rfl, rfl, rfl, rfl, rfl, rfl, rfl, rfl, rfl, trivial⟩) B_g1 B_g5_1 B_g5_13 B_g5_3 n_g1_g5_1 n_g1_g5_13 n_g1_g5_3 n_g5_1_g5_13 n_g5_1_g5_3 n_g5_13_g5_3 z_0_g5_1 z_0_g5_13 z_0_g5_3 K_0
  exact all_nil
 have dr5_7 : ∀ (g5_1 : Nat) (g5_13 : Nat) (W : World) (a : Act), En 48 a [(0, Value.agg (([Value.int .i64 c, Value.int .i64 f, Value.int .i64 l, Value.int .i64 x, Value.int .i64 h] ++ b16 s ++ b16 d)).toArray), (1, Value.pointer (some ⟨g1, 0, none⟩)), (2, Value.slice none 0 0), (3, Value.int .i64 0), (4, Value.int .i64 0), (5, Value.int .i64 (((1536 + c) * 1048576) + f)), (10, Value.bool false), (19, Value.agg #[Value.slice none 0 0, Value.int .i64 0]), (20, Value.pointer (some ⟨g5_1, 0, none⟩)), (21, Value.int .i64 (((1536 + c) * 1048576) + f)), (24, Value.pointer (some ⟨g1, 2, none⟩)), (25, Value.int .i64 l), (28, Value.pointer (some ⟨g1, 3, none⟩)), (29, Value.int .i64 x), (30, Value.pointer (some ⟨g1, 4, none⟩)), (31, Value.int .i64 h), (32, Value.slice (some ⟨g5_13, 0, none⟩) 2 2)] → W.heap[g1]? = some (.cells (([Value.int .i64 c, Value.int .i64 f, Value.int .i64 l, Value.int .i64 x, Value.int .i64 h] ++ b16 s ++ b16 d)).toArray 27 (0, 0)) → W.heap[g5_1]? = some (.cells #[Value.slice none 0 0, Value.int .i64 0] 209 (0, 0)) → W.heap[g5_13]? = some (.cells #[Value.int .i64 x, Value.int .i64 h] 3 (0, 0)) → g1 ≠ g5_1 → g1 ≠ g5_13 → g5_1 ≠ g5_13 → w.heap.size ≤ g5_1 → w.heap.size ≤ g5_13 → Kp w W (fun _ => False) → wpAnyH Try.prog .any (regOf Try.f83 5) QQ (fun W => W.heap[g1]? = some (.cells (([Value.int .i64 c, Value.int .i64 f, Value.int .i64 l, Value.int .i64 x, Value.int .i64 h] ++ b16 s ++ b16 d)).toArray 27 (0, 0)) ∧ True) 6 #[κ, κ, κ, ι, ι, κ, κ, ι, ι, κ, κ, κ, κ, κ, ι, ι] a W := by
  intro g5_1 g5_13 w147 a hE B_g1 B_g5_1 B_g5_13 n_g1_g5_1 n_g1_g5_13 n_g5_1_g5_13 z_0_g5_1 z_0_g5_13 K_0
  refine d_all (rs := [3, 7]) (by kernel_rfl) rfl ?_
  refine all_cons (d_lit (listed' := #[κ, κ, κ, κ, ι, κ, κ, ι, ι, κ, κ, κ, κ, κ, ι, ι]) rfl ?_) ?_
  ·
   refine (s_row (xs := [(0, Operand.tmp 21)]) (vs := [(0, Value.int .i64 (((1536 + c) * 1048576) + f))]) (cs := #[Value.int .i64 (((1536 + c) * 1048576) + f)]) p83_5_3 hE wn_none rfl Try.underlying22 rfl (by kernel_rfl) ?_)
   clear hE a; intro g5_3 w148 z149 B_g5_3 hk a hE
   have n_g1_g5_3 : g1 ≠ g5_3 := ne_new B_g1 z149
   have n_g5_1_g5_3 : g5_1 ≠ g5_3 := ne_new B_g5_1 z149
   have n_g5_13_g5_3 : g5_13 ≠ g5_3 := ne_new B_g5_13 z149
   have z_0_g5_3 := Nat.le_trans K_0.kept.1 z149
   replace B_g1 := kp_blk B_g1 hk (fun h => h)
   replace B_g5_1 := kp_blk B_g5_1 hk (fun h => h)
   replace B_g5_13 := kp_blk B_g5_13 hk (fun h => h)
   replace K_0 := K_0.then_ hk (fun _ h => h.elim)
   clear hk
   refine ⟨⟨B_g1, trivial⟩, ?_⟩
   exact dr5_13 g5_1 g5_13 g5_3 _ a (En.sub hE ⟨rfl, rfl, rfl, rfl, rfl, rfl, rfl, rfl, rfl, rfl, rfl, rfl, rfl, rfl, rfl, rfl, rfl, rfl, trivial⟩) B_g1 B_g5_1 B_g5_13 B_g5_3 n_g1_g5_1 n_g1_g5_13 n_g1_g5_3 n_g5_1_g5_13 n_g5_1_g5_3 n_g5_13_g5_3 z_0_g5_1 z_0_g5_13 z_0_g5_3 K_0
  refine all_cons (d_lit (listed' := #[κ, κ, κ, ι, ι, κ, κ, κ, ι, κ, κ, κ, κ, κ, ι, ι]) rfl ?_) ?_
  ·
   refine (s_row (xs := [(0, Operand.tmp 25)]) (vs := [(0, Value.int .i64 l)]) (cs := #[Value.int .i64 l]) p83_5_7 hE wn_none rfl Try.underlying22 rfl (by kernel_rfl) ?_)
   clear hE a; intro g5_7 w150 z151 B_g5_7 hk a hE
   have n_g1_g5_7 : g1 ≠ g5_7 := ne_new B_g1 z151
   have n_g5_1_g5_7 : g5_1 ≠ g5_7 := ne_new B_g5_1 z151
   have n_g5_13_g5_7 : g5_13 ≠ g5_7 := ne_new B_g5_13 z151
   have z_0_g5_7 := Nat.le_trans K_0.kept.1 z151
   replace B_g1 := kp_blk B_g1 hk (fun h => h)
   replace B_g5_1 := kp_blk B_g5_1 hk (fun h => h)
   replace B_g5_13 := kp_blk B_g5_13 hk (fun h => h)
   replace K_0 := K_0.then_ hk (fun _ h => h.elim)
   clear hk
   refine ⟨⟨B_g1, trivial⟩, ?_⟩
   exact dr5_14 g5_1 g5_13 g5_7 _ a (En.sub hE ⟨rfl, rfl, rfl, rfl, rfl, rfl, rfl, rfl, rfl, rfl, rfl, rfl, rfl, rfl, rfl, rfl, rfl, rfl, trivial⟩) B_g1 B_g5_7 B_g5_1 B_g5_13 n_g1_g5_1 n_g1_g5_13 n_g1_g5_7 n_g5_1_g5_13 n_g5_1_g5_7 n_g5_13_g5_7 z_0_g5_1 z_0_g5_13 z_0_g5_7 K_0
  exact all_nil
 have dr5_6 : ∀ (g5_13 : Nat) (g5_7 : Nat) (W : World) (a : Act), En 48 a [(0, Value.agg (([Value.int .i64 c, Value.int .i64 f, Value.int .i64 l, Value.int .i64 x, Value.int .i64 h] ++ b16 s ++ b16 d)).toArray), (1, Value.pointer (some ⟨g1, 0, none⟩)), (2, Value.slice none 0 0), (3, Value.int .i64 0), (4, Value.int .i64 0), (5, Value.int .i64 (((1536 + c) * 1048576) + f)), (10, Value.bool false), (19, Value.agg #[Value.slice none 0 0, Value.int .i64 0]), (21, Value.int .i64 (((1536 + c) * 1048576) + f)), (24, Value.pointer (some ⟨g1, 2, none⟩)), (25, Value.int .i64 l), (26, Value.slice (some ⟨g5_7, 0, none⟩) 1 1), (28, Value.pointer (some ⟨g1, 3, none⟩)), (29, Value.int .i64 x), (30, Value.pointer (some ⟨g1, 4, none⟩)), (31, Value.int .i64 h), (32, Value.slice (some ⟨g5_13, 0, none⟩) 2 2)] → W.heap[g1]? = some (.cells (([Value.int .i64 c, Value.int .i64 f, Value.int .i64 l, Value.int .i64 x, Value.int .i64 h] ++ b16 s ++ b16 d)).toArray 27 (0, 0)) → W.heap[g5_7]? = some (.cells #[Value.int .i64 l] 3 (0, 0)) → W.heap[g5_13]? = some (.cells #[Value.int .i64 x, Value.int .i64 h] 3 (0, 0)) → g1 ≠ g5_13 → g1 ≠ g5_7 → g5_13 ≠ g5_7 → w.heap.size ≤ g5_13 → w.heap.size ≤ g5_7 → Kp w W (fun _ => False) → wpAnyH Try.prog .any (regOf Try.f83 5) QQ (fun W => W.heap[g1]? = some (.cells (([Value.int .i64 c, Value.int .i64 f, Value.int .i64 l, Value.int .i64 x, Value.int .i64 h] ++ b16 s ++ b16 d)).toArray 27 (0, 0)) ∧ True) 6 #[κ, ι, κ, ι, ι, κ, κ, κ, ι, κ, κ, κ, κ, κ, ι, ι] a W := by
  intro g5_13 g5_7 w152 a hE B_g1 B_g5_7 B_g5_13 n_g1_g5_13 n_g1_g5_7 n_g5_13_g5_7 z_0_g5_13 z_0_g5_7 K_0
  refine d_all (rs := [1, 3]) (by kernel_rfl) rfl ?_
  refine all_cons (d_lit (listed' := #[κ, κ, κ, ι, ι, κ, κ, κ, ι, κ, κ, κ, κ, κ, ι, ι]) rfl ?_) ?_
  ·
   refine (s_box p83_5_1 hE wn_none rfl rfl ?_)
   clear hE a; intro g5_1 w153 z154 B_g5_1 hk a hE
   replace B_g5_1 : w153.heap[g5_1]? = some (.cells #[Value.slice none 0 0, Value.int .i64 0] 209 (0, 0)) := B_g5_1
   have n_g1_g5_1 : g1 ≠ g5_1 := ne_new B_g1 z154
   have n_g5_7_g5_1 : g5_7 ≠ g5_1 := ne_new B_g5_7 z154
   have n_g5_13_g5_1 : g5_13 ≠ g5_1 := ne_new B_g5_13 z154
   have z_0_g5_1 := Nat.le_trans K_0.kept.1 z154
   replace B_g1 := kp_blk B_g1 hk (fun h => h)
   replace B_g5_7 := kp_blk B_g5_7 hk (fun h => h)
   replace B_g5_13 := kp_blk B_g5_13 hk (fun h => h)
   replace K_0 := K_0.then_ hk (fun _ h => h.elim)
   clear hk
   refine ⟨⟨B_g1, trivial⟩, ?_⟩
   have n_g5_1_g5_13 := Ne.symm n_g5_13_g5_1
   have n_g5_1_g5_7 := Ne.symm n_g5_7_g5_1
   exact dr5_14 g5_1 g5_13 g5_7 _ a (En.sub hE ⟨rfl, rfl, rfl, rfl, rfl, rfl, rfl, rfl, rfl, rfl, rfl, rfl, rfl, rfl, rfl, rfl, rfl, rfl, trivial⟩) B_g1 B_g5_7 B_g5_1 B_g5_13 n_g1_g5_1 n_g1_g5_13 n_g1_g5_7 n_g5_1_g5_13 n_g5_1_g5_7 n_g5_13_g5_7 z_0_g5_1 z_0_g5_13 z_0_g5_7 K_0
  refine all_cons (d_lit (listed' := #[κ, ι, κ, κ, ι, κ, κ, κ, ι, κ, κ, κ, κ, κ, ι, ι]) rfl ?_) ?_
  ·
   refine (s_row (xs := [(0, Operand.tmp 21)]) (vs := [(0, Value.int .i64 (((1536 + c) * 1048576) + f))]) (cs := #[Value.int .i64 (((1536 + c) * 1048576) + f)]) p83_5_3 hE wn_none rfl Try.underlying22 rfl (by kernel_rfl) ?_)
   clear hE a; intro g5_3 w155 z156 B_g5_3 hk a hE
   have n_g1_g5_3 : g1 ≠ g5_3 := ne_new B_g1 z156
   have n_g5_7_g5_3 : g5_7 ≠ g5_3 := ne_new B_g5_7 z156
   have n_g5_13_g5_3 : g5_13 ≠ g5_3 := ne_new B_g5_13 z156
   have z_0_g5_3 := Nat.le_trans K_0.kept.1 z156
   replace B_g1 := kp_blk B_g1 hk (fun h => h)
   replace B_g5_7 := kp_blk B_g5_7 hk (fun h => h)
   replace B_g5_13 := kp_blk B_g5_13 hk (fun h => h)
   replace K_0 := K_0.then_ hk (fun _ h => h.elim)
   clear hk
   refine ⟨⟨B_g1, trivial⟩, ?_⟩
   have n_g5_3_g5_7 := Ne.symm n_g5_7_g5_3
   exact dr5_11 g5_13 g5_3 g5_7 _ a (En.sub hE ⟨rfl, rfl, rfl, rfl, rfl, rfl, rfl, rfl, rfl, rfl, rfl, rfl, rfl, rfl, rfl, rfl, rfl, rfl, trivial⟩) B_g1 B_g5_7 B_g5_13 B_g5_3 n_g1_g5_13 n_g1_g5_3 n_g1_g5_7 n_g5_13_g5_3 n_g5_13_g5_7 n_g5_3_g5_7 z_0_g5_13 z_0_g5_3 z_0_g5_7 K_0
  exact all_nil
 have dr5_5 : ∀ (g5_1 : Nat) (g5_7 : Nat) (W : World) (a : Act), En 48 a [(0, Value.agg (([Value.int .i64 c, Value.int .i64 f, Value.int .i64 l, Value.int .i64 x, Value.int .i64 h] ++ b16 s ++ b16 d)).toArray), (1, Value.pointer (some ⟨g1, 0, none⟩)), (2, Value.slice none 0 0), (3, Value.int .i64 0), (4, Value.int .i64 0), (5, Value.int .i64 (((1536 + c) * 1048576) + f)), (10, Value.bool false), (19, Value.agg #[Value.slice none 0 0, Value.int .i64 0]), (20, Value.pointer (some ⟨g5_1, 0, none⟩)), (21, Value.int .i64 (((1536 + c) * 1048576) + f)), (24, Value.pointer (some ⟨g1, 2, none⟩)), (25, Value.int .i64 l), (26, Value.slice (some ⟨g5_7, 0, none⟩) 1 1), (28, Value.pointer (some ⟨g1, 3, none⟩)), (29, Value.int .i64 x), (30, Value.pointer (some ⟨g1, 4, none⟩)), (31, Value.int .i64 h)] → W.heap[g1]? = some (.cells (([Value.int .i64 c, Value.int .i64 f, Value.int .i64 l, Value.int .i64 x, Value.int .i64 h] ++ b16 s ++ b16 d)).toArray 27 (0, 0)) → W.heap[g5_7]? = some (.cells #[Value.int .i64 l] 3 (0, 0)) → W.heap[g5_1]? = some (.cells #[Value.slice none 0 0, Value.int .i64 0] 209 (0, 0)) → g1 ≠ g5_1 → g1 ≠ g5_7 → g5_1 ≠ g5_7 → w.heap.size ≤ g5_1 → w.heap.size ≤ g5_7 → Kp w W (fun _ => False) → wpAnyH Try.prog .any (regOf Try.f83 5) QQ (fun W => W.heap[g1]? = some (.cells (([Value.int .i64 c, Value.int .i64 f, Value.int .i64 l, Value.int .i64 x, Value.int .i64 h] ++ b16 s ++ b16 d)).toArray 27 (0, 0)) ∧ True) 6 #[κ, κ, κ, ι, ι, κ, κ, κ, ι, κ, κ, κ, κ, ι, ι, ι] a W := by
  intro g5_1 g5_7 w157 a hE B_g1 B_g5_7 B_g5_1 n_g1_g5_1 n_g1_g5_7 n_g5_1_g5_7 z_0_g5_1 z_0_g5_7 K_0
  refine d_all (rs := [3, 13]) (by kernel_rfl) rfl ?_
  refine all_cons (d_lit (listed' := #[κ, κ, κ, κ, ι, κ, κ, κ, ι, κ, κ, κ, κ, ι, ι, ι]) rfl ?_) ?_
  ·
   refine (s_row (xs := [(0, Operand.tmp 21)]) (vs := [(0, Value.int .i64 (((1536 + c) * 1048576) + f))]) (cs := #[Value.int .i64 (((1536 + c) * 1048576) + f)]) p83_5_3 hE wn_none rfl Try.underlying22 rfl (by kernel_rfl) ?_)
   clear hE a; intro g5_3 w158 z159 B_g5_3 hk a hE
   have n_g1_g5_3 : g1 ≠ g5_3 := ne_new B_g1 z159
   have n_g5_7_g5_3 : g5_7 ≠ g5_3 := ne_new B_g5_7 z159
   have n_g5_1_g5_3 : g5_1 ≠ g5_3 := ne_new B_g5_1 z159
   have z_0_g5_3 := Nat.le_trans K_0.kept.1 z159
   replace B_g1 := kp_blk B_g1 hk (fun h => h)
   replace B_g5_7 := kp_blk B_g5_7 hk (fun h => h)
   replace B_g5_1 := kp_blk B_g5_1 hk (fun h => h)
   replace K_0 := K_0.then_ hk (fun _ h => h.elim)
   clear hk
   refine ⟨⟨B_g1, trivial⟩, ?_⟩
   have n_g5_3_g5_7 := Ne.symm n_g5_7_g5_3
   exact dr5_15 g5_1 g5_3 g5_7 _ a (En.sub hE ⟨rfl, rfl, rfl, rfl, rfl, rfl, rfl, rfl, rfl, rfl, rfl, rfl, rfl, rfl, rfl, rfl, rfl, rfl, trivial⟩) B_g1 B_g5_7 B_g5_1 B_g5_3 n_g1_g5_1 n_g1_g5_3 n_g1_g5_7 n_g5_1_g5_3 n_g5_1_g5_7 n_g5_3_g5_7 z_0_g5_1 z_0_g5_3 z_0_g5_7 K_0
  refine all_cons (d_lit (listed' := #[κ, κ, κ, ι, ι, κ, κ, κ, ι, κ, κ, κ, κ, κ, ι, ι]) rfl ?_) ?_
  ·
   refine (s_row (xs := [(0, Operand.tmp 29), (1, Operand.tmp 31)]) (vs := [(0, Value.int .i64 x), (1, Value.int .i64 h)]) (cs := #[Value.int .i64 x, Value.int .i64 h]) p83_5_13 hE wn_none rfl Try.underlying22 rfl (by kernel_rfl) ?_)
   clear hE a; intro g5_13 w160 z161 B_g5_13 hk a hE
   have n_g1_g5_13 : g1 ≠ g5_13 := ne_new B_g1 z161
   have n_g5_7_g5_13 : g5_7 ≠ g5_13 := ne_new B_g5_7 z161
   have n_g5_1_g5_13 : g5_1 ≠ g5_13 := ne_new B_g5_1 z161
   have z_0_g5_13 := Nat.le_trans K_0.kept.1 z161
   replace B_g1 := kp_blk B_g1 hk (fun h => h)
   replace B_g5_7 := kp_blk B_g5_7 hk (fun h => h)
   replace B_g5_1 := kp_blk B_g5_1 hk (fun h => h)
   replace K_0 := K_0.then_ hk (fun _ h => h.elim)
   clear hk
   refine ⟨⟨B_g1, trivial⟩, ?_⟩
   have n_g5_13_g5_7 := Ne.symm n_g5_7_g5_13
   exact dr5_14 g5_1 g5_13 g5_7 _ a (En.sub hE ⟨rfl, rfl, rfl, rfl, rfl, rfl, rfl, rfl, rfl, rfl, rfl, rfl, rfl, rfl, rfl, rfl, rfl, rfl, trivial⟩) B_g1 B_g5_7 B_g5_1 B_g5_13 n_g1_g5_1 n_g1_g5_13 n_g1_g5_7 n_g5_1_g5_13 n_g5_1_g5_7 n_g5_13_g5_7 z_0_g5_1 z_0_g5_13 z_0_g5_7 K_0
  exact all_nil
 have dr5_4 : ∀ (g5_13 : Nat) (W : World) (a : Act), En 48 a [(0, Value.agg (([Value.int .i64 c, Value.int .i64 f, Value.int .i64 l, Value.int .i64 x, Value.int .i64 h] ++ b16 s ++ b16 d)).toArray), (1, Value.pointer (some ⟨g1, 0, none⟩)), (2, Value.slice none 0 0), (3, Value.int .i64 0), (4, Value.int .i64 0), (5, Value.int .i64 (((1536 + c) * 1048576) + f)), (10, Value.bool false), (19, Value.agg #[Value.slice none 0 0, Value.int .i64 0]), (21, Value.int .i64 (((1536 + c) * 1048576) + f)), (24, Value.pointer (some ⟨g1, 2, none⟩)), (25, Value.int .i64 l), (28, Value.pointer (some ⟨g1, 3, none⟩)), (29, Value.int .i64 x), (30, Value.pointer (some ⟨g1, 4, none⟩)), (31, Value.int .i64 h), (32, Value.slice (some ⟨g5_13, 0, none⟩) 2 2)] → W.heap[g1]? = some (.cells (([Value.int .i64 c, Value.int .i64 f, Value.int .i64 l, Value.int .i64 x, Value.int .i64 h] ++ b16 s ++ b16 d)).toArray 27 (0, 0)) → W.heap[g5_13]? = some (.cells #[Value.int .i64 x, Value.int .i64 h] 3 (0, 0)) → g1 ≠ g5_13 → w.heap.size ≤ g5_13 → Kp w W (fun _ => False) → wpAnyH Try.prog .any (regOf Try.f83 5) QQ (fun W => W.heap[g1]? = some (.cells (([Value.int .i64 c, Value.int .i64 f, Value.int .i64 l, Value.int .i64 x, Value.int .i64 h] ++ b16 s ++ b16 d)).toArray 27 (0, 0)) ∧ True) 7 #[κ, ι, κ, ι, ι, κ, κ, ι, ι, κ, κ, κ, κ, κ, ι, ι] a W := by
  intro g5_13 w162 a hE B_g1 B_g5_13 n_g1_g5_13 z_0_g5_13 K_0
  refine d_all (rs := [1, 3, 7]) (by kernel_rfl) rfl ?_
  refine all_cons (d_lit (listed' := #[κ, κ, κ, ι, ι, κ, κ, ι, ι, κ, κ, κ, κ, κ, ι, ι]) rfl ?_) ?_
  ·
   refine (s_box p83_5_1 hE wn_none rfl rfl ?_)
   clear hE a; intro g5_1 w163 z164 B_g5_1 hk a hE
   replace B_g5_1 : w163.heap[g5_1]? = some (.cells #[Value.slice none 0 0, Value.int .i64 0] 209 (0, 0)) := B_g5_1
   have n_g1_g5_1 : g1 ≠ g5_1 := ne_new B_g1 z164
   have n_g5_13_g5_1 : g5_13 ≠ g5_1 := ne_new B_g5_13 z164
   have z_0_g5_1 := Nat.le_trans K_0.kept.1 z164
   replace B_g1 := kp_blk B_g1 hk (fun h => h)
   replace B_g5_13 := kp_blk B_g5_13 hk (fun h => h)
   replace K_0 := K_0.then_ hk (fun _ h => h.elim)
   clear hk
   refine ⟨⟨B_g1, trivial⟩, ?_⟩
   have n_g5_1_g5_13 := Ne.symm n_g5_13_g5_1
   exact dr5_7 g5_1 g5_13 _ a (En.sub hE ⟨rfl, rfl, rfl, rfl, rfl, rfl, rfl, rfl, rfl, rfl, rfl, rfl, rfl, rfl, rfl, rfl, rfl, trivial⟩) B_g1 B_g5_1 B_g5_13 n_g1_g5_1 n_g1_g5_13 n_g5_1_g5_13 z_0_g5_1 z_0_g5_13 K_0
  refine all_cons (d_lit (listed' := #[κ, ι, κ, κ, ι, κ, κ, ι, ι, κ, κ, κ, κ, κ, ι, ι]) rfl ?_) ?_
  ·
   refine (s_row (xs := [(0, Operand.tmp 21)]) (vs := [(0, Value.int .i64 (((1536 + c) * 1048576) + f))]) (cs := #[Value.int .i64 (((1536 + c) * 1048576) + f)]) p83_5_3 hE wn_none rfl Try.underlying22 rfl (by kernel_rfl) ?_)
   clear hE a; intro g5_3 w165 z166 B_g5_3 hk a hE
   have n_g1_g5_3 : g1 ≠ g5_3 := ne_new B_g1 z166
   have n_g5_13_g5_3 : g5_13 ≠ g5_3 := ne_new B_g5_13 z166
   have z_0_g5_3 := Nat.le_trans K_0.kept.1 z166
   replace B_g1 := kp_blk B_g1 hk (fun h => h)
   replace B_g5_13 := kp_blk B_g5_13 hk (fun h => h)
   replace K_0 := K_0.then_ hk (fun _ h => h.elim)
   clear hk
   refine ⟨⟨B_g1, trivial⟩, ?_⟩
   exact dr5_9 g5_13 g5_3 _ a (En.sub hE ⟨rfl, rfl, rfl, rfl, rfl, rfl, rfl, rfl, rfl, rfl, rfl, rfl, rfl, rfl, rfl, rfl, rfl, trivial⟩) B_g1 B_g5_3 B_g5_13 n_g1_g5_13 n_g1_g5_3 n_g5_13_g5_3 z_0_g5_13 z_0_g5_3 K_0
  refine all_cons (d_lit (listed' := #[κ, ι, κ, ι, ι, κ, κ, κ, ι, κ, κ, κ, κ, κ, ι, ι]) rfl ?_) ?_
  ·
   refine (s_row (xs := [(0, Operand.tmp 25)]) (vs := [(0, Value.int .i64 l)]) (cs := #[Value.int .i64 l]) p83_5_7 hE wn_none rfl Try.underlying22 rfl (by kernel_rfl) ?_)
   clear hE a; intro g5_7 w167 z168 B_g5_7 hk a hE
   have n_g1_g5_7 : g1 ≠ g5_7 := ne_new B_g1 z168
   have n_g5_13_g5_7 : g5_13 ≠ g5_7 := ne_new B_g5_13 z168
   have z_0_g5_7 := Nat.le_trans K_0.kept.1 z168
   replace B_g1 := kp_blk B_g1 hk (fun h => h)
   replace B_g5_13 := kp_blk B_g5_13 hk (fun h => h)
   replace K_0 := K_0.then_ hk (fun _ h => h.elim)
   clear hk
   refine ⟨⟨B_g1, trivial⟩, ?_⟩
   exact dr5_6 g5_13 g5_7 _ a (En.sub hE ⟨rfl, rfl, rfl, rfl, rfl, rfl, rfl, rfl, rfl, rfl, rfl, rfl, rfl, rfl, rfl, rfl, rfl, trivial⟩) B_g1 B_g5_7 B_g5_13 n_g1_g5_13 n_g1_g5_7 n_g5_13_g5_7 z_0_g5_13 z_0_g5_7 K_0
  exact all_nil
 have dr5_3 : ∀ (g5_1 : Nat) (W : World) (a : Act), En 48 a [(0, Value.agg (([Value.int .i64 c, Value.int .i64 f, Value.int .i64 l, Value.int .i64 x, Value.int .i64 h] ++ b16 s ++ b16 d)).toArray), (1, Value.pointer (some ⟨g1, 0, none⟩)), (2, Value.slice none 0 0), (3, Value.int .i64 0), (4, Value.int .i64 0), (5, Value.int .i64 (((1536 + c) * 1048576) + f)), (10, Value.bool false), (19, Value.agg #[Value.slice none 0 0, Value.int .i64 0]), (20, Value.pointer (some ⟨g5_1, 0, none⟩)), (21, Value.int .i64 (((1536 + c) * 1048576) + f)), (24, Value.pointer (some ⟨g1, 2, none⟩)), (25, Value.int .i64 l), (28, Value.pointer (some ⟨g1, 3, none⟩)), (29, Value.int .i64 x), (30, Value.pointer (some ⟨g1, 4, none⟩)), (31, Value.int .i64 h)] → W.heap[g1]? = some (.cells (([Value.int .i64 c, Value.int .i64 f, Value.int .i64 l, Value.int .i64 x, Value.int .i64 h] ++ b16 s ++ b16 d)).toArray 27 (0, 0)) → W.heap[g5_1]? = some (.cells #[Value.slice none 0 0, Value.int .i64 0] 209 (0, 0)) → g1 ≠ g5_1 → w.heap.size ≤ g5_1 → Kp w W (fun _ => False) → wpAnyH Try.prog .any (regOf Try.f83 5) QQ (fun W => W.heap[g1]? = some (.cells (([Value.int .i64 c, Value.int .i64 f, Value.int .i64 l, Value.int .i64 x, Value.int .i64 h] ++ b16 s ++ b16 d)).toArray 27 (0, 0)) ∧ True) 7 #[κ, κ, κ, ι, ι, κ, κ, ι, ι, κ, κ, κ, κ, ι, ι, ι] a W := by
  intro g5_1 w169 a hE B_g1 B_g5_1 n_g1_g5_1 z_0_g5_1 K_0
  refine d_all (rs := [3, 7, 13]) (by kernel_rfl) rfl ?_
  refine all_cons (d_lit (listed' := #[κ, κ, κ, κ, ι, κ, κ, ι, ι, κ, κ, κ, κ, ι, ι, ι]) rfl ?_) ?_
  ·
   refine (s_row (xs := [(0, Operand.tmp 21)]) (vs := [(0, Value.int .i64 (((1536 + c) * 1048576) + f))]) (cs := #[Value.int .i64 (((1536 + c) * 1048576) + f)]) p83_5_3 hE wn_none rfl Try.underlying22 rfl (by kernel_rfl) ?_)
   clear hE a; intro g5_3 w170 z171 B_g5_3 hk a hE
   have n_g1_g5_3 : g1 ≠ g5_3 := ne_new B_g1 z171
   have n_g5_1_g5_3 : g5_1 ≠ g5_3 := ne_new B_g5_1 z171
   have z_0_g5_3 := Nat.le_trans K_0.kept.1 z171
   replace B_g1 := kp_blk B_g1 hk (fun h => h)
   replace B_g5_1 := kp_blk B_g5_1 hk (fun h => h)
   replace K_0 := K_0.then_ hk (fun _ h => h.elim)
   clear hk
   refine ⟨⟨B_g1, trivial⟩, ?_⟩
   exact dr5_8 g5_1 g5_3 _ a (En.sub hE ⟨rfl, rfl, rfl, rfl, rfl, rfl, rfl, rfl, rfl, rfl, rfl, rfl, rfl, rfl, rfl, rfl, rfl, trivial⟩) B_g1 B_g5_3 B_g5_1 n_g1_g5_1 n_g1_g5_3 n_g5_1_g5_3 z_0_g5_1 z_0_g5_3 K_0
  refine all_cons (d_lit (listed' := #[κ, κ, κ, ι, ι, κ, κ, κ, ι, κ, κ, κ, κ, ι, ι, ι]) rfl ?_) ?_
  ·
   refine (s_row (xs := [(0, Operand.tmp 25)]) (vs := [(0, Value.int .i64 l)]) (cs := #[Value.int .i64 l]) p83_5_7 hE wn_none rfl Try.underlying22 rfl (by kernel_rfl) ?_)
   clear hE a; intro g5_7 w172 z173 B_g5_7 hk a hE
   have n_g1_g5_7 : g1 ≠ g5_7 := ne_new B_g1 z173
   have n_g5_1_g5_7 : g5_1 ≠ g5_7 := ne_new B_g5_1 z173
   have z_0_g5_7 := Nat.le_trans K_0.kept.1 z173
   replace B_g1 := kp_blk B_g1 hk (fun h => h)
   replace B_g5_1 := kp_blk B_g5_1 hk (fun h => h)
   replace K_0 := K_0.then_ hk (fun _ h => h.elim)
   clear hk
   refine ⟨⟨B_g1, trivial⟩, ?_⟩
   exact dr5_5 g5_1 g5_7 _ a (En.sub hE ⟨rfl, rfl, rfl, rfl, rfl, rfl, rfl, rfl, rfl, rfl, rfl, rfl, rfl, rfl, rfl, rfl, rfl, trivial⟩) B_g1 B_g5_7 B_g5_1 n_g1_g5_1 n_g1_g5_7 n_g5_1_g5_7 z_0_g5_1 z_0_g5_7 K_0
  refine all_cons (d_lit (listed' := #[κ, κ, κ, ι, ι, κ, κ, ι, ι, κ, κ, κ, κ, κ, ι, ι]) rfl ?_) ?_
  ·
   refine (s_row (xs := [(0, Operand.tmp 29), (1, Operand.tmp 31)]) (vs := [(0, Value.int .i64 x), (1, Value.int .i64 h)]) (cs := #[Value.int .i64 x, Value.int .i64 h]) p83_5_13 hE wn_none rfl Try.underlying22 rfl (by kernel_rfl) ?_)
   clear hE a; intro g5_13 w174 z175 B_g5_13 hk a hE
   have n_g1_g5_13 : g1 ≠ g5_13 := ne_new B_g1 z175
   have n_g5_1_g5_13 : g5_1 ≠ g5_13 := ne_new B_g5_1 z175
   have z_0_g5_13 := Nat.le_trans K_0.kept.1 z175
   replace B_g1 := kp_blk B_g1 hk (fun h => h)
   replace B_g5_1 := kp_blk B_g5_1 hk (fun h => h)
   replace K_0 := K_0.then_ hk (fun _ h => h.elim)
   clear hk
   refine ⟨⟨B_g1, trivial⟩, ?_⟩
   exact dr5_7 g5_1 g5_13 _ a (En.sub hE ⟨rfl, rfl, rfl, rfl, rfl, rfl, rfl, rfl, rfl, rfl, rfl, rfl, rfl, rfl, rfl, rfl, rfl, trivial⟩) B_g1 B_g5_1 B_g5_13 n_g1_g5_1 n_g1_g5_13 n_g5_1_g5_13 z_0_g5_1 z_0_g5_13 K_0
  exact all_nil
 have dr5_2 : ∀ (g5_7 : Nat) (W : World) (a : Act), En 48 a [(0, Value.agg (([Value.int .i64 c, Value.int .i64 f, Value.int .i64 l, Value.int .i64 x, Value.int .i64 h] ++ b16 s ++ b16 d)).toArray), (1, Value.pointer (some ⟨g1, 0, none⟩)), (2, Value.slice none 0 0), (3, Value.int .i64 0), (4, Value.int .i64 0), (5, Value.int .i64 (((1536 + c) * 1048576) + f)), (10, Value.bool false), (19, Value.agg #[Value.slice none 0 0, Value.int .i64 0]), (21, Value.int .i64 (((1536 + c) * 1048576) + f)), (24, Value.pointer (some ⟨g1, 2, none⟩)), (25, Value.int .i64 l), (26, Value.slice (some ⟨g5_7, 0, none⟩) 1 1), (28, Value.pointer (some ⟨g1, 3, none⟩)), (29, Value.int .i64 x), (30, Value.pointer (some ⟨g1, 4, none⟩)), (31, Value.int .i64 h)] → W.heap[g1]? = some (.cells (([Value.int .i64 c, Value.int .i64 f, Value.int .i64 l, Value.int .i64 x, Value.int .i64 h] ++ b16 s ++ b16 d)).toArray 27 (0, 0)) → W.heap[g5_7]? = some (.cells #[Value.int .i64 l] 3 (0, 0)) → g1 ≠ g5_7 → w.heap.size ≤ g5_7 → Kp w W (fun _ => False) → wpAnyH Try.prog .any (regOf Try.f83 5) QQ (fun W => W.heap[g1]? = some (.cells (([Value.int .i64 c, Value.int .i64 f, Value.int .i64 l, Value.int .i64 x, Value.int .i64 h] ++ b16 s ++ b16 d)).toArray 27 (0, 0)) ∧ True) 7 #[κ, ι, κ, ι, ι, κ, κ, κ, ι, κ, κ, κ, κ, ι, ι, ι] a W := by
  intro g5_7 w176 a hE B_g1 B_g5_7 n_g1_g5_7 z_0_g5_7 K_0
  refine d_all (rs := [1, 3, 13]) (by kernel_rfl) rfl ?_
  refine all_cons (d_lit (listed' := #[κ, κ, κ, ι, ι, κ, κ, κ, ι, κ, κ, κ, κ, ι, ι, ι]) rfl ?_) ?_
  ·
   refine (s_box p83_5_1 hE wn_none rfl rfl ?_)
   clear hE a; intro g5_1 w177 z178 B_g5_1 hk a hE
   replace B_g5_1 : w177.heap[g5_1]? = some (.cells #[Value.slice none 0 0, Value.int .i64 0] 209 (0, 0)) := B_g5_1
   have n_g1_g5_1 : g1 ≠ g5_1 := ne_new B_g1 z178
   have n_g5_7_g5_1 : g5_7 ≠ g5_1 := ne_new B_g5_7 z178
   have z_0_g5_1 := Nat.le_trans K_0.kept.1 z178
   replace B_g1 := kp_blk B_g1 hk (fun h => h)
   replace B_g5_7 := kp_blk B_g5_7 hk (fun h => h)
   replace K_0 := K_0.then_ hk (fun _ h => h.elim)
   clear hk
   refine ⟨⟨B_g1, trivial⟩, ?_⟩
   have n_g5_1_g5_7 := Ne.symm n_g5_7_g5_1
   exact dr5_5 g5_1 g5_7 _ a (En.sub hE ⟨rfl, rfl, rfl, rfl, rfl, rfl, rfl, rfl, rfl, rfl, rfl, rfl, rfl, rfl, rfl, rfl, rfl, trivial⟩) B_g1 B_g5_7 B_g5_1 n_g1_g5_1 n_g1_g5_7 n_g5_1_g5_7 z_0_g5_1 z_0_g5_7 K_0
  refine all_cons (d_lit (listed' := #[κ, ι, κ, κ, ι, κ, κ, κ, ι, κ, κ, κ, κ, ι, ι, ι]) rfl ?_) ?_
  ·
   refine (s_row (xs := [(0, Operand.tmp 21)]) (vs := [(0, Value.int .i64 (((1536 + c) * 1048576) + f))]) (cs := #[Value.int .i64 (((1536 + c) * 1048576) + f)]) p83_5_3 hE wn_none rfl Try.underlying22 rfl (by kernel_rfl) ?_)
   clear hE a; intro g5_3 w179 z180 B_g5_3 hk a hE
   have n_g1_g5_3 : g1 ≠ g5_3 := ne_new B_g1 z180
   have n_g5_7_g5_3 : g5_7 ≠ g5_3 := ne_new B_g5_7 z180
   have z_0_g5_3 := Nat.le_trans K_0.kept.1 z180
   replace B_g1 := kp_blk B_g1 hk (fun h => h)
   replace B_g5_7 := kp_blk B_g5_7 hk (fun h => h)
   replace K_0 := K_0.then_ hk (fun _ h => h.elim)
   clear hk
   refine ⟨⟨B_g1, trivial⟩, ?_⟩
   have n_g5_3_g5_7 := Ne.symm n_g5_7_g5_3
   exact dr5_10 g5_3 g5_7 _ a (En.sub hE ⟨rfl, rfl, rfl, rfl, rfl, rfl, rfl, rfl, rfl, rfl, rfl, rfl, rfl, rfl, rfl, rfl, rfl, trivial⟩) B_g1 B_g5_3 B_g5_7 n_g1_g5_3 n_g1_g5_7 n_g5_3_g5_7 z_0_g5_3 z_0_g5_7 K_0
  refine all_cons (d_lit (listed' := #[κ, ι, κ, ι, ι, κ, κ, κ, ι, κ, κ, κ, κ, κ, ι, ι]) rfl ?_) ?_
  ·
   refine (s_row (xs := [(0, Operand.tmp 29), (1, Operand.tmp 31)]) (vs := [(0, Value.int .i64 x), (1, Value.int .i64 h)]) (cs := #[Value.int .i64 x, Value.int .i64 h]) p83_5_13 hE wn_none rfl Try.underlying22 rfl (by kernel_rfl) ?_)
   clear hE a; intro g5_13 w181 z182 B_g5_13 hk a hE
   have n_g1_g5_13 : g1 ≠ g5_13 := ne_new B_g1 z182
   have n_g5_7_g5_13 : g5_7 ≠ g5_13 := ne_new B_g5_7 z182
   have z_0_g5_13 := Nat.le_trans K_0.kept.1 z182
   replace B_g1 := kp_blk B_g1 hk (fun h => h)
   replace B_g5_7 := kp_blk B_g5_7 hk (fun h => h)
   replace K_0 := K_0.then_ hk (fun _ h => h.elim)
   clear hk
   refine ⟨⟨B_g1, trivial⟩, ?_⟩
   have n_g5_13_g5_7 := Ne.symm n_g5_7_g5_13
   exact dr5_6 g5_13 g5_7 _ a (En.sub hE ⟨rfl, rfl, rfl, rfl, rfl, rfl, rfl, rfl, rfl, rfl, rfl, rfl, rfl, rfl, rfl, rfl, rfl, trivial⟩) B_g1 B_g5_7 B_g5_13 n_g1_g5_13 n_g1_g5_7 n_g5_13_g5_7 z_0_g5_13 z_0_g5_7 K_0
  exact all_nil
 have dr5_1 : ∀ (g5_3 : Nat) (W : World) (a : Act), En 48 a [(0, Value.agg (([Value.int .i64 c, Value.int .i64 f, Value.int .i64 l, Value.int .i64 x, Value.int .i64 h] ++ b16 s ++ b16 d)).toArray), (1, Value.pointer (some ⟨g1, 0, none⟩)), (2, Value.slice none 0 0), (3, Value.int .i64 0), (4, Value.int .i64 0), (5, Value.int .i64 (((1536 + c) * 1048576) + f)), (10, Value.bool false), (19, Value.agg #[Value.slice none 0 0, Value.int .i64 0]), (21, Value.int .i64 (((1536 + c) * 1048576) + f)), (22, Value.slice (some ⟨g5_3, 0, none⟩) 1 1), (24, Value.pointer (some ⟨g1, 2, none⟩)), (25, Value.int .i64 l), (28, Value.pointer (some ⟨g1, 3, none⟩)), (29, Value.int .i64 x), (30, Value.pointer (some ⟨g1, 4, none⟩)), (31, Value.int .i64 h)] → W.heap[g1]? = some (.cells (([Value.int .i64 c, Value.int .i64 f, Value.int .i64 l, Value.int .i64 x, Value.int .i64 h] ++ b16 s ++ b16 d)).toArray 27 (0, 0)) → W.heap[g5_3]? = some (.cells #[Value.int .i64 (((1536 + c) * 1048576) + f)] 3 (0, 0)) → g1 ≠ g5_3 → w.heap.size ≤ g5_3 → Kp w W (fun _ => False) → wpAnyH Try.prog .any (regOf Try.f83 5) QQ (fun W => W.heap[g1]? = some (.cells (([Value.int .i64 c, Value.int .i64 f, Value.int .i64 l, Value.int .i64 x, Value.int .i64 h] ++ b16 s ++ b16 d)).toArray 27 (0, 0)) ∧ True) 7 #[κ, ι, κ, κ, ι, κ, κ, ι, ι, κ, κ, κ, κ, ι, ι, ι] a W := by
  intro g5_3 w183 a hE B_g1 B_g5_3 n_g1_g5_3 z_0_g5_3 K_0
  refine d_all (rs := [1, 7, 13]) (by kernel_rfl) rfl ?_
  refine all_cons (d_lit (listed' := #[κ, κ, κ, κ, ι, κ, κ, ι, ι, κ, κ, κ, κ, ι, ι, ι]) rfl ?_) ?_
  ·
   refine (s_box p83_5_1 hE wn_none rfl rfl ?_)
   clear hE a; intro g5_1 w184 z185 B_g5_1 hk a hE
   replace B_g5_1 : w184.heap[g5_1]? = some (.cells #[Value.slice none 0 0, Value.int .i64 0] 209 (0, 0)) := B_g5_1
   have n_g1_g5_1 : g1 ≠ g5_1 := ne_new B_g1 z185
   have n_g5_3_g5_1 : g5_3 ≠ g5_1 := ne_new B_g5_3 z185
   have z_0_g5_1 := Nat.le_trans K_0.kept.1 z185
   replace B_g1 := kp_blk B_g1 hk (fun h => h)
   replace B_g5_3 := kp_blk B_g5_3 hk (fun h => h)
   replace K_0 := K_0.then_ hk (fun _ h => h.elim)
   clear hk
   refine ⟨⟨B_g1, trivial⟩, ?_⟩
   have n_g5_1_g5_3 := Ne.symm n_g5_3_g5_1
   exact dr5_8 g5_1 g5_3 _ a (En.sub hE ⟨rfl, rfl, rfl, rfl, rfl, rfl, rfl, rfl, rfl, rfl, rfl, rfl, rfl, rfl, rfl, rfl, rfl, trivial⟩) B_g1 B_g5_3 B_g5_1 n_g1_g5_1 n_g1_g5_3 n_g5_1_g5_3 z_0_g5_1 z_0_g5_3 K_0
  refine all_cons (d_lit (listed' := #[κ, ι, κ, κ, ι, κ, κ, κ, ι, κ, κ, κ, κ, ι, ι, ι]) rfl ?_) ?_
  ·
   refine (s_row (xs := [(0, Operand.tmp 25)]) (vs := [(0, Value.int .i64 l)]) (cs := #[Value.int .i64 l]) p83_5_7 hE wn_none rfl Try.underlying22 rfl (by kernel_rfl) ?_)
   clear hE a; intro g5_7 w186 z187 B_g5_7 hk a hE
   have n_g1_g5_7 : g1 ≠ g5_7 := ne_new B_g1 z187
   have n_g5_3_g5_7 : g5_3 ≠ g5_7 := ne_new B_g5_3 z187
   have z_0_g5_7 := Nat.le_trans K_0.kept.1 z187
   replace B_g1 := kp_blk B_g1 hk (fun h => h)
   replace B_g5_3 := kp_blk B_g5_3 hk (fun h => h)
   replace K_0 := K_0.then_ hk (fun _ h => h.elim)
   clear hk
   refine ⟨⟨B_g1, trivial⟩, ?_⟩
   exact dr5_10 g5_3 g5_7 _ a (En.sub hE ⟨rfl, rfl, rfl, rfl, rfl, rfl, rfl, rfl, rfl, rfl, rfl, rfl, rfl, rfl, rfl, rfl, rfl, trivial⟩) B_g1 B_g5_3 B_g5_7 n_g1_g5_3 n_g1_g5_7 n_g5_3_g5_7 z_0_g5_3 z_0_g5_7 K_0
  refine all_cons (d_lit (listed' := #[κ, ι, κ, κ, ι, κ, κ, ι, ι, κ, κ, κ, κ, κ, ι, ι]) rfl ?_) ?_
  ·
   refine (s_row (xs := [(0, Operand.tmp 29), (1, Operand.tmp 31)]) (vs := [(0, Value.int .i64 x), (1, Value.int .i64 h)]) (cs := #[Value.int .i64 x, Value.int .i64 h]) p83_5_13 hE wn_none rfl Try.underlying22 rfl (by kernel_rfl) ?_)
   clear hE a; intro g5_13 w188 z189 B_g5_13 hk a hE
   have n_g1_g5_13 : g1 ≠ g5_13 := ne_new B_g1 z189
   have n_g5_3_g5_13 : g5_3 ≠ g5_13 := ne_new B_g5_3 z189
   have z_0_g5_13 := Nat.le_trans K_0.kept.1 z189
   replace B_g1 := kp_blk B_g1 hk (fun h => h)
   replace B_g5_3 := kp_blk B_g5_3 hk (fun h => h)
   replace K_0 := K_0.then_ hk (fun _ h => h.elim)
   clear hk
   refine ⟨⟨B_g1, trivial⟩, ?_⟩
   have n_g5_13_g5_3 := Ne.symm n_g5_3_g5_13
   exact dr5_9 g5_13 g5_3 _ a (En.sub hE ⟨rfl, rfl, rfl, rfl, rfl, rfl, rfl, rfl, rfl, rfl, rfl, rfl, rfl, rfl, rfl, rfl, rfl, trivial⟩) B_g1 B_g5_3 B_g5_13 n_g1_g5_13 n_g1_g5_3 n_g5_13_g5_3 z_0_g5_13 z_0_g5_3 K_0
  exact all_nil
 have dr5_0 : ∀ (W : World) (a : Act), En 48 a [(0, Value.agg (([Value.int .i64 c, Value.int .i64 f, Value.int .i64 l, Value.int .i64 x, Value.int .i64 h] ++ b16 s ++ b16 d)).toArray), (1, Value.pointer (some ⟨g1, 0, none⟩)), (2, Value.slice none 0 0), (3, Value.int .i64 0), (4, Value.int .i64 0), (5, Value.int .i64 (((1536 + c) * 1048576) + f)), (10, Value.bool false), (19, Value.agg #[Value.slice none 0 0, Value.int .i64 0]), (21, Value.int .i64 (((1536 + c) * 1048576) + f)), (24, Value.pointer (some ⟨g1, 2, none⟩)), (25, Value.int .i64 l), (28, Value.pointer (some ⟨g1, 3, none⟩)), (29, Value.int .i64 x), (30, Value.pointer (some ⟨g1, 4, none⟩)), (31, Value.int .i64 h)] → W.heap[g1]? = some (.cells (([Value.int .i64 c, Value.int .i64 f, Value.int .i64 l, Value.int .i64 x, Value.int .i64 h] ++ b16 s ++ b16 d)).toArray 27 (0, 0)) → Kp w W (fun _ => False) → wpAnyH Try.prog .any (regOf Try.f83 5) QQ (fun W => W.heap[g1]? = some (.cells (([Value.int .i64 c, Value.int .i64 f, Value.int .i64 l, Value.int .i64 x, Value.int .i64 h] ++ b16 s ++ b16 d)).toArray 27 (0, 0)) ∧ True) 8 #[κ, ι, κ, ι, ι, κ, κ, ι, ι, κ, κ, κ, κ, ι, ι, ι] a W := by
  intro w190 a hE B_g1 K_0
  refine d_all (rs := [1, 3, 7, 13]) (by kernel_rfl) rfl ?_
  refine all_cons (d_lit (listed' := #[κ, κ, κ, ι, ι, κ, κ, ι, ι, κ, κ, κ, κ, ι, ι, ι]) rfl ?_) ?_
  ·
   refine (s_box p83_5_1 hE wn_none rfl rfl ?_)
   clear hE a; intro g5_1 w191 z192 B_g5_1 hk a hE
   replace B_g5_1 : w191.heap[g5_1]? = some (.cells #[Value.slice none 0 0, Value.int .i64 0] 209 (0, 0)) := B_g5_1
   have n_g1_g5_1 : g1 ≠ g5_1 := ne_new B_g1 z192
   have z_0_g5_1 := Nat.le_trans K_0.kept.1 z192
   replace B_g1 := kp_blk B_g1 hk (fun h => h)
   replace K_0 := K_0.then_ hk (fun _ h => h.elim)
   clear hk
   refine ⟨⟨B_g1, trivial⟩, ?_⟩
   exact dr5_3 g5_1 _ a (En.sub hE ⟨rfl, rfl, rfl, rfl, rfl, rfl, rfl, rfl, rfl, rfl, rfl, rfl, rfl, rfl, rfl, rfl, trivial⟩) B_g1 B_g5_1 n_g1_g5_1 z_0_g5_1 K_0
  refine all_cons (d_lit (listed' := #[κ, ι, κ, κ, ι, κ, κ, ι, ι, κ, κ, κ, κ, ι, ι, ι]) rfl ?_) ?_
  ·
   refine (s_row (xs := [(0, Operand.tmp 21)]) (vs := [(0, Value.int .i64 (((1536 + c) * 1048576) + f))]) (cs := #[Value.int .i64 (((1536 + c) * 1048576) + f)]) p83_5_3 hE wn_none rfl Try.underlying22 rfl (by kernel_rfl) ?_)
   clear hE a; intro g5_3 w193 z194 B_g5_3 hk a hE
   have n_g1_g5_3 : g1 ≠ g5_3 := ne_new B_g1 z194
   have z_0_g5_3 := Nat.le_trans K_0.kept.1 z194
   replace B_g1 := kp_blk B_g1 hk (fun h => h)
   replace K_0 := K_0.then_ hk (fun _ h => h.elim)
   clear hk
   refine ⟨⟨B_g1, trivial⟩, ?_⟩
   exact dr5_1 g5_3 _ a (En.sub hE ⟨rfl, rfl, rfl, rfl, rfl, rfl, rfl, rfl, rfl, rfl, rfl, rfl, rfl, rfl, rfl, rfl, trivial⟩) B_g1 B_g5_3 n_g1_g5_3 z_0_g5_3 K_0
  refine all_cons (d_lit (listed' := #[κ, ι, κ, ι, ι, κ, κ, κ, ι, κ, κ, κ, κ, ι, ι, ι]) rfl ?_) ?_
  ·
   refine (s_row (xs := [(0, Operand.tmp 25)]) (vs := [(0, Value.int .i64 l)]) (cs := #[Value.int .i64 l]) p83_5_7 hE wn_none rfl Try.underlying22 rfl (by kernel_rfl) ?_)
   clear hE a; intro g5_7 w195 z196 B_g5_7 hk a hE
   have n_g1_g5_7 : g1 ≠ g5_7 := ne_new B_g1 z196
   have z_0_g5_7 := Nat.le_trans K_0.kept.1 z196
   replace B_g1 := kp_blk B_g1 hk (fun h => h)
   replace K_0 := K_0.then_ hk (fun _ h => h.elim)
   clear hk
   refine ⟨⟨B_g1, trivial⟩, ?_⟩
   exact dr5_2 g5_7 _ a (En.sub hE ⟨rfl, rfl, rfl, rfl, rfl, rfl, rfl, rfl, rfl, rfl, rfl, rfl, rfl, rfl, rfl, rfl, trivial⟩) B_g1 B_g5_7 n_g1_g5_7 z_0_g5_7 K_0
  refine all_cons (d_lit (listed' := #[κ, ι, κ, ι, ι, κ, κ, ι, ι, κ, κ, κ, κ, κ, ι, ι]) rfl ?_) ?_
  ·
   refine (s_row (xs := [(0, Operand.tmp 29), (1, Operand.tmp 31)]) (vs := [(0, Value.int .i64 x), (1, Value.int .i64 h)]) (cs := #[Value.int .i64 x, Value.int .i64 h]) p83_5_13 hE wn_none rfl Try.underlying22 rfl (by kernel_rfl) ?_)
   clear hE a; intro g5_13 w197 z198 B_g5_13 hk a hE
   have n_g1_g5_13 : g1 ≠ g5_13 := ne_new B_g1 z198
   have z_0_g5_13 := Nat.le_trans K_0.kept.1 z198
   replace B_g1 := kp_blk B_g1 hk (fun h => h)
   replace K_0 := K_0.then_ hk (fun _ h => h.elim)
   clear hk
   refine ⟨⟨B_g1, trivial⟩, ?_⟩
   exact dr5_4 g5_13 _ a (En.sub hE ⟨rfl, rfl, rfl, rfl, rfl, rfl, rfl, rfl, rfl, rfl, rfl, rfl, rfl, rfl, rfl, rfl, trivial⟩) B_g1 B_g5_13 n_g1_g5_13 z_0_g5_13 K_0
  exact all_nil
 intro w5 hh hk
 replace B_g1 := kp_blk B_g1 hk (fun h => h)
 replace K_0 := K_0.then_ hk (fun _ h => h.elim)
 clear hh hk
 refine Rv.dq (listed' := #[κ, ι, ι, ι, ι, ι, ι, ι, ι, ι, ι, ι, ι, ι, ι, ι]) (v := Value.agg #[Value.slice none 0 0, Value.int .i64 0]) p83_5_0 ns83_5 hE wn_none ⟨B_g1, trivial⟩ (fun W hS => (st_build (xs := []) (vs := []) (cs := #[Value.slice none 0 0, Value.int .i64 0]) rfl (by kernel_rfl))) ?_ (fun c a w h => hQ c a _ _ w h); clear hE a; intro a hE
 refine Rv.dq (listed' := #[κ, ι, κ, ι, ι, ι, ι, ι, ι, ι, ι, ι, ι, ι, ι, ι]) (v := Value.int .i64 (((1536 + c) * 1048576) + f)) p83_5_2 ns83_5 hE wn_none ⟨B_g1, trivial⟩ (fun W hS => (st_move rfl)) ?_ (fun c a w h => hQ c a _ _ w h); clear hE a; intro a hE
 refine Rv.dq (listed' := #[κ, ι, κ, ι, ι, κ, ι, ι, ι, ι, ι, ι, ι, ι, ι, ι]) (v := Value.pointer (some ⟨g1, 2, none⟩)) p83_5_5 ns83_5 hE wn_none ⟨B_g1, trivial⟩ (fun W hS => (st_fieldAddr Try.underlying27 rfl tS3 rfl rfl)) ?_ (fun c a w h => hQ c a _ _ w h); clear hE a; intro a hE
 refine Rv.dq (listed' := #[κ, ι, κ, ι, ι, κ, κ, ι, ι, ι, ι, ι, ι, ι, ι, ι]) (v := Value.int .i64 l) p83_5_6 ns83_5 hE wn_none ⟨B_g1, trivial⟩ (fun W hS => (st_load1 tA3 rfl ((blk_cell hS.1 2).trans rfl))) ?_ (fun c a w h => hQ c a _ _ w h); clear hE a; intro a hE
 refine Rv.dq (listed' := #[κ, ι, κ, ι, ι, κ, κ, ι, ι, κ, ι, ι, ι, ι, ι, ι]) (v := Value.pointer (some ⟨g1, 3, none⟩)) p83_5_9 ns83_5 hE wn_none ⟨B_g1, trivial⟩ (fun W hS => (st_fieldAddr Try.underlying27 rfl tS3 rfl rfl)) ?_ (fun c a w h => hQ c a _ _ w h); clear hE a; intro a hE
 refine Rv.dq (listed' := #[κ, ι, κ, ι, ι, κ, κ, ι, ι, κ, κ, ι, ι, ι, ι, ι]) (v := Value.int .i64 x) p83_5_10 ns83_5 hE wn_none ⟨B_g1, trivial⟩ (fun W hS => (st_load1 tA3 rfl ((blk_cell hS.1 3).trans rfl))) ?_ (fun c a w h => hQ c a _ _ w h); clear hE a; intro a hE
 refine Rv.dq (listed' := #[κ, ι, κ, ι, ι, κ, κ, ι, ι, κ, κ, κ, ι, ι, ι, ι]) (v := Value.pointer (some ⟨g1, 4, none⟩)) p83_5_11 ns83_5 hE wn_none ⟨B_g1, trivial⟩ (fun W hS => (st_fieldAddr Try.underlying27 rfl tS3 rfl rfl)) ?_ (fun c a w h => hQ c a _ _ w h); clear hE a; intro a hE
 refine Rv.dq (listed' := #[κ, ι, κ, ι, ι, κ, κ, ι, ι, κ, κ, κ, κ, ι, ι, ι]) (v := Value.int .i64 h) p83_5_12 ns83_5 hE wn_none ⟨B_g1, trivial⟩ (fun W hS => (st_load1 tA3 rfl ((blk_cell hS.1 4).trans rfl))) ?_ (fun c a w h => hQ c a _ _ w h); clear hE a; intro a hE
 exact dr5_0 _ a (En.sub hE ⟨rfl, rfl, rfl, rfl, rfl, rfl, rfl, rfl, rfl, rfl, rfl, rfl, rfl, rfl, rfl, trivial⟩) B_g1 K_0
end Go.Proofs.Ytijfocnneccccaa.Hd
