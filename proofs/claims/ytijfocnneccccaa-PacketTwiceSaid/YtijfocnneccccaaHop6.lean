/- Package hopopt. -/
import Derived.Test.YtijfocnneccccaaAdr
import Derived.Test.YtijfocnneccccaaHwith
set_option maxRecDepth 100000
set_option linter.unusedVariables false
set_option linter.unusedSimpArgs false
namespace Go.Proofs.Ytijfocnneccccaa.Hp
open Go.RowKit Go.Proofs.YtijfocnneccccaaW.PrintWords Go.Proofs.Ytijfocnneccccaa.Ds Go.Proofs.Ytijfocnneccccaa.Ad Go.Proofs.Ytijfocnneccccaa.Hd Go.Proofs.Ytijfocnneccccaa.Hw
open Go.Proofs.Ytijfocnneccccaa.Pk (Kp fitsF spanF putF digF fits_any put_ok)
open Go.Proofs.Ytijfocnneccccaa.Mi (st_eqlP MapI)
theorem quoI {x y : Int} (h0 : 0 ≤ x) (h9 : x ≤ 9223372036854775807) (hy : 1 ≤ y) : IntKind.wrap .i64 (x.tdiv y) = x / y := by
 rw [Int.tdiv_eq_ediv_of_nonneg h0]
 have h1 := Int.ediv_nonneg h0 (show 0 ≤ y by omega)
 have h2 := Int.ediv_le_self y h0
 exact wr_i64 _ (by omega) (by omega)
def okO (ins rk : Int) : Bool := fitsF 1 [ins] && fitsF 2 [rk]
theorem fits_one {x : Int} : fitsF 1 [x] = decide (0 ≤ x ∧ x < 256) := by simp [fitsF, spanF]
theorem fits_two {x : Int} : fitsF 2 [x] = decide (0 ≤ x ∧ x < 65536) := by simp [fitsF, spanF]
theorem okO_b {ins rk : Int} (h : okO ins rk = true) : (0 ≤ ins ∧ ins < 256) ∧ 0 ≤ rk ∧ rk < 65536 := by
 simpa only [okO, fits_one, fits_two, Bool.and_eq_true, decide_eq_true_eq] using h
theorem okO_mk {ins rk : Int} (h1 : 0 ≤ ins ∧ ins < 256) (h2 : 0 ≤ rk ∧ rk < 65536) : okO ins rk = true := by
 simpa only [okO, fits_one, fits_two, Bool.and_eq_true, decide_eq_true_eq] using ⟨h1, h2⟩
def flagF (dn wr fa : Bool) : Int := ((0 + bif dn then 128 else 0) + bif wr then 64 else 0) + bif fa then 32 else 0
theorem flag_b (dn wr fa : Bool) : 0 ≤ flagF dn wr fa ∧ flagF dn wr fa < 256 := by cases dn <;> cases wr <;> cases fa <;> decide
/-- The option's bytes. -/
def hopB (n : Int) (dn wr fa : Bool) (ins rk : Int) : List Int := putF 1 [n, 0, 99, 4, flagF dn wr fa, ins] ++ putF 2 [rk]
/-- Is a hop consistent? -/
def consB (dn : Bool) (rk own least : Int) : Bool := bif dn then decide (rk / least < own / least) else decide (own / least < rk / least)
theorem R122_0_l : List.range (regOf Try.f122 0).size = [0, 1] := by kernel_rfl
theorem R122_1_l : List.range (regOf Try.f122 1).size = [0, 1, 2, 3, 4, 5, 6, 7, 8, 9, 10, 11] := by kernel_rfl
theorem R122_2_l : List.range (regOf Try.f122 2).size = [0] := by kernel_rfl
theorem R122_3_l : List.range (regOf Try.f122 3).size = [0] := by kernel_rfl
theorem body122 : Try.f122.body = some (.seq (.region 0 (regOf Try.f122 0) false) (.seq (.seq (.region 1 (regOf Try.f122 1) false) (.cond (Operand.tmp 14) (.seq (.region 2 (regOf Try.f122 2) false) (.ret)) (.skip))) (.seq (.region 3 (regOf Try.f122 3) false) (.ret)))) := by kernel_rfl
theorem P122_0 : (List.range (regOf Try.f122 0).size).map (pj (regOf Try.f122 0)) = [zz 1 (.box 32 (.tmp 0)) 0, zz 2 (.assign (.const (.int .i64 0))) 36] := by kernel_rfl
theorem P122_1 : (List.range (regOf Try.f122 1).size).map (pj (regOf Try.f122 1)) = [zz 3 (.fieldAddr 32 (.tmp 1) 3) 0, zz 4 (.load 3 (.tmp 3)) 3, zz 5 (.buildSlice 22 1 #[(0, .tmp 4)]) 22, zz 6 (.call { callee := .value (.func 47), args := #[.const (.int .i64 1), .tmp 5], argTypes := #[3, 22] }) 4, zz 7 (.unOp .not 4 (.tmp 6)) 4, zz 8 (.move (.tmp 7)) 4, some (some 9, .fieldAddr 32 (.tmp 1) 4, 0, some (5, false)), some (some 10, .load 3 (.tmp 9), 3, some (5, false)), some (some 11, .buildSlice 22 1 #[(0, .tmp 10)], 22, some (5, false)), some (some 12, .call { callee := .value (.func 47), args := #[.const (.int .i64 2), .tmp 11], argTypes := #[3, 22] }, 4, some (5, false)), some (some 13, .unOp .not 4 (.tmp 12), 4, some (5, false)), zz 14 (.pick (.tmp 8) (.const (.bool true)) (.tmp 13)) 4] := by kernel_rfl
theorem tS3 : (Try.prog.info? 3).map (·.size) = some 1 := by kernel_rfl
theorem tA3 : (Try.prog.underlying 3).map aggD = some false := by kernel_rfl
theorem cl47 : callable Try.f47 = true := by kernel_rfl
theorem g122_1_5 : dstOf (regOf Try.f122 1) 5 = some 8 := by kernel_rfl
theorem p122_3_0 : pj (regOf Try.f122 3) 0 = some (some 2, .assign (.const (.int .i64 0)), 36, none) := by kernel_rfl
theorem p122_2_0 : pj (regOf Try.f122 2) 0 = some (some 2, .assign (.const (.int .i64 1)), 36, none) := by kernel_rfl
set_option maxHeartbeats 4000000 in
theorem ocheck (dn wr fa : Bool) (ins rk : Int) (w : World) : Calls Try.prog 122 #[Value.agg #[Value.bool dn, Value.bool wr, Value.bool fa, Value.int .i64 ins, Value.int .i64 rk]] w fun e w' => e = .returned (.int .i64 (bif okO ins rk then 0 else 1)) ∧ Kp w w' (fun _ => False) := by
 have K_0 := Kp.refl w (fun _ => False)
 refine enter (args := [Value.agg #[Value.bool dn, Value.bool wr, Value.bool fa, Value.int .i64 ins, Value.int .i64 rk]]) (n := 15) Try.func122 body122 rfl rfl rfl ?_
 intro a hE
 refine c_reg R122_0_l ?_
 refine p_cons (s_box (pl P122_0 0) hE wn_none rfl rfl ?_)
 clear hE a; intro g1 w2 z3 B_g1 hk a hE
 replace B_g1 : w2.heap[g1]? = some (.cells #[Value.bool dn, Value.bool wr, Value.bool fa, Value.int .i64 ins, Value.int .i64 rk] 32 (0, 0)) := B_g1
 have z_0_g1 := Nat.le_trans K_0.kept.1 z3
 replace K_0 := K_0.then_ hk (fun _ h => h.elim)
 clear hk
 refine q0 (pl P122_0 1) hE (st_assign rfl) ?_; clear hE a; intro a hE
 refine p_nil (x_norm (wp_seq (c_reg R122_1_l ?_)))
 refine qn hE (rc (pl P122_1 0) (st_fieldAddr Try.underlying32 rfl tS3 rfl rfl) (rc (pl P122_1 1) (st_load1 tA3 rfl ((blk_cell B_g1 3).trans rfl)) rn)) ?_; clear hE a; intro a hE
 refine p_cons (s_row (xs := [(0, Operand.tmp 4)]) (vs := [(0, Value.int .i64 ins)]) (cs := #[Value.int .i64 ins]) (pl P122_1 2) hE wn_none rfl Try.underlying22 rfl (by kernel_rfl) ?_)
 clear hE a; intro g4 w5 z6 B_g4 hk a hE
 have n_g1_g4 : g1 ≠ g4 := ne_new B_g1 z6
 have z_0_g4 := Nat.le_trans K_0.kept.1 z6
 replace B_g1 := kp_blk B_g1 hk (fun h => h)
 replace K_0 := K_0.then_ hk (fun _ h => h.elim)
 clear hk
 refine p_cons (s_call (xs := [Operand.const (Value.int IntKind.i64 1), Operand.tmp 5]) (args := [Value.int .i64 1, Value.slice (some ⟨g4, 0, none⟩) 1 1]) (pl P122_1 3) hE wn_none rfl rfl Try.func47 cl47 (fits_any (some ⟨g4, 0, none⟩) 1 1 [ins] (fitsF 1 [ins]) rfl _ (C_blk (k := .i64) (l := [ins]) (off := 0) B_g4 ⟨rfl, Nat.le_of_ble_eq_true rfl⟩ rfl) (Nat.le_of_ble_eq_true rfl)) ?_)
 rintro e w7 ⟨rfl, hk⟩
 replace B_g1 := kp_blk B_g1 hk (fun h => h)
 replace B_g4 := kp_blk B_g4 hk (fun h => h)
 replace K_0 := K_0.then_ hk (fun _ h => h.elim)
 refine ⟨_, rfl, ?_⟩; clear hE a; intro a hE
 refine qn hE (rc (pl P122_1 4) (st_not rfl rfl) (rc (pl P122_1 5) (st_move rfl) rn)) ?_; clear hE a; intro a hE
 rcases Bool.eq_false_or_eq_true (fitsF 1 [ins]) with hb8 | hb8
 ·
  rw [hb8] at hE
  refine qn hE (rg (pl P122_1 6) (wn_some g122_1_5 rfl rfl) (st_fieldAddr Try.underlying32 rfl tS3 rfl rfl) (rg (pl P122_1 7) (wn_some g122_1_5 rfl rfl) (st_load1 tA3 rfl ((blk_cell B_g1 4).trans rfl)) rn)) ?_; clear hE a; intro a hE
  refine p_cons (s_row (xs := [(0, Operand.tmp 10)]) (vs := [(0, Value.int .i64 rk)]) (cs := #[Value.int .i64 rk]) (pl P122_1 8) hE (wn_some g122_1_5 rfl rfl) rfl Try.underlying22 rfl (by kernel_rfl) ?_)
  clear hE a; intro g9 w10 z11 B_g9 hk a hE
  have n_g1_g9 : g1 ≠ g9 := ne_new B_g1 z11
  have n_g4_g9 : g4 ≠ g9 := ne_new B_g4 z11
  have z_0_g9 := Nat.le_trans K_0.kept.1 z11
  replace B_g1 := kp_blk B_g1 hk (fun h => h)
  replace B_g4 := kp_blk B_g4 hk (fun h => h)
  replace K_0 := K_0.then_ hk (fun _ h => h.elim)
  clear hk
  refine p_cons (s_call (xs := [Operand.const (Value.int IntKind.i64 2), Operand.tmp 11]) (args := [Value.int .i64 2, Value.slice (some ⟨g9, 0, none⟩) 1 1]) (pl P122_1 9) hE (wn_some g122_1_5 rfl rfl) rfl rfl Try.func47 cl47 (fits_any (some ⟨g9, 0, none⟩) 1 2 [rk] (fitsF 2 [rk]) rfl _ (C_blk (k := .i64) (l := [rk]) (off := 0) B_g9 ⟨rfl, Nat.le_of_ble_eq_true rfl⟩ rfl) (Nat.le_of_ble_eq_true rfl)) ?_)
  rintro e w12 ⟨rfl, hk⟩
  replace B_g1 := kp_blk B_g1 hk (fun h => h)
  replace B_g4 := kp_blk B_g4 hk (fun h => h)
  replace B_g9 := kp_blk B_g9 hk (fun h => h)
  replace K_0 := K_0.then_ hk (fun _ h => h.elim)
  refine ⟨_, rfl, ?_⟩; clear hE a; intro a hE
  refine qn hE (rg (pl P122_1 10) (wn_some g122_1_5 rfl rfl) (st_not rfl rfl) (rc (pl P122_1 11) (st_pick rfl rfl) rn)) ?_; clear hE a; intro a hE
  refine p_nil (x_norm ?_)
  rcases Bool.eq_false_or_eq_true (fitsF 2 [rk]) with hb13 | hb13
  ·
   rw [hb13] at hE
   refine c_cond (t := false) hE rfl ?_
   refine wp_skip (x_norm (c_reg R122_3_l ?_))
   refine q0 p122_3_0 hE (st_assign rfl) ?_; clear hE a; intro a hE
   refine p_nil (x_norm (wp_ret ?_))
   refine ret_one (v := Value.int .i64 0) rfl hE (.tmp rfl .nil) ?_
   exact ⟨by unfold okO; rw [hb8, hb13]; rfl, K_0⟩
  ·
   rw [hb13] at hE
   refine c_cond (t := true) hE rfl ?_
   refine c_reg R122_2_l ?_
   refine q0 p122_2_0 hE (st_assign rfl) ?_; clear hE a; intro a hE
   refine p_nil (x_norm (wp_ret (x_ret ?_)))
   refine ret_one (v := Value.int .i64 1) rfl hE (.tmp rfl .nil) ?_
   exact ⟨by unfold okO; rw [hb8, hb13]; rfl, K_0⟩
 ·
  rw [hb8] at hE
  refine qn hE (Ds.rk (pl P122_1 6) (wn_some g122_1_5 rfl rfl) (Ds.rk (pl P122_1 7) (wn_some g122_1_5 rfl rfl) (Ds.rk (pl P122_1 8) (wn_some g122_1_5 rfl rfl) (Ds.rk (pl P122_1 9) (wn_some g122_1_5 rfl rfl) (Ds.rk (pl P122_1 10) (wn_some g122_1_5 rfl rfl) (rc (pl P122_1 11) (st_pick rfl rfl) rn)))))) ?_; clear hE a; intro a hE
  refine p_nil (x_norm ?_)
  refine c_cond (t := true) hE rfl ?_
  refine c_reg R122_2_l ?_
  refine q0 p122_2_0 hE (st_assign rfl) ?_; clear hE a; intro a hE
  refine p_nil (x_norm (wp_ret (x_ret ?_)))
  refine ret_one (v := Value.int .i64 1) rfl hE (.tmp rfl .nil) ?_
  exact ⟨by unfold okO; rw [hb8]; rfl, K_0⟩
theorem R143_0_l : List.range (regOf Try.f143 0).size = [0, 1, 2] := by kernel_rfl
theorem R143_1_l : List.range (regOf Try.f143 1).size = [0] := by kernel_rfl
theorem R143_2_l : List.range (regOf Try.f143 2).size = [0, 1, 2, 3] := by kernel_rfl
theorem body143 : Try.f143.body = some (.seq (.region 0 (regOf Try.f143 0) false) (.seq (.region 1 (regOf Try.f143 1) false) (.cond (Operand.tmp 6) (.region 2 (regOf Try.f143 2) false) (.skip)))) := by kernel_rfl
theorem P143_0 : (List.range (regOf Try.f143 0).size).map (pj (regOf Try.f143 0)) = [zz 4 (.load 3 (.tmp 1)) 3, zz 5 (.binOp .quo 3 (.tmp 4) (.const (.int .i64 2)) 3) 3, some (none, .store 3 (.tmp 1) (.tmp 5), 0, none)] := by kernel_rfl
theorem p143_1_0 : pj (regOf Try.f143 1) 0 = some (some 6, .move (.tmp 0), 4, none) := by kernel_rfl
theorem P143_2 : (List.range (regOf Try.f143 2).size).map (pj (regOf Try.f143 2)) = [zz 7 (.load 3 (.tmp 2)) 3, zz 8 (.load 3 (.tmp 1)) 3, zz 9 (.binOp .or 3 (.tmp 7) (.tmp 8) 3) 3, some (none, .store 3 (.tmp 2) (.tmp 9), 0, none)] := by kernel_rfl
set_option maxHeartbeats 4000000 in
theorem flag_next (b : Bool) (gb gn : Nat) (vb vn : Int) (hne : gb ≠ gn) (h0 : 0 ≤ vb) (h9 : vb ≤ 256) (hor : bits .or .i64 vn (vb / 2) = vn + vb / 2) (w : World) (hb : w.heap[gb]? = some (.cells #[.int .i64 vb] 3 (0, 0))) (hn : w.heap[gn]? = some (.cells #[.int .i64 vn] 3 (0, 0))) : Calls Try.prog 143 #[.bool b, .pointer (some ⟨gb, 0, none⟩), .pointer (some ⟨gn, 0, none⟩)] w fun e w' => e = .returned (.tuple #[]) ∧ w'.heap[gb]? = some (.cells #[.int .i64 (vb / 2)] 3 (0, 0)) ∧ w'.heap[gn]? = some (.cells #[.int .i64 (vn + bif b then vb / 2 else 0)] 3 (0, 0)) ∧ Kp w w' (fun k => k = gb ∨ k = gn) := by
 have K_0 := Kp.refl w (fun k => k = gb ∨ k = gn)
 have B_gb := hb
 have B_gn := hn
 have n_gb_gn := hne
 refine enter (args := [Value.bool b, Value.pointer (some ⟨gb, 0, none⟩), Value.pointer (some ⟨gn, 0, none⟩)]) (n := 10) Try.func143 body143 rfl rfl rfl ?_
 intro a hE
 refine c_reg R143_0_l ?_
 refine qn hE (rc (pl P143_0 0) (st_load1 tA3 rfl ((blk_cell B_gb 0).trans rfl)) (rc (pl P143_0 1) (st_quo (z := vb / 2) rfl rfl (by decide) (quoI (by omega) (by omega) (by decide))) rn)) ?_; clear hE a; intro a hE
 refine p_cons (s_store (off := 0) (k := 1) (cs' := #[Value.int .i64 (vb / 2)]) (pl P143_0 2) hE wn_none tS3 rfl rfl rfl rfl B_gb (Nat.le_of_ble_eq_true rfl) rfl ?_)
 intro w1 B_gb' hk
 replace B_gn := kp_blk B_gn hk (Ne.symm n_gb_gn)
 replace K_0 := K_0.then_ hk (fun k h => by rw [show k = gb from h]; exact Or.inl (Or.inl rfl))
 replace B_gb := B_gb'
 clear hk
 refine p_nil (x_norm (c_reg R143_1_l ?_))
 refine q0 p143_1_0 hE (st_move rfl) ?_; clear hE a; intro a hE
 refine p_nil (x_norm ?_)
 rcases Bool.eq_false_or_eq_true b with hb2 | hb2
 ·
  rw [hb2] at hE
  refine c_cond (t := true) hE rfl ?_
  refine c_regL R143_2_l ?_
  refine qn hE (rc (pl P143_2 0) (st_load1 tA3 rfl ((blk_cell B_gn 0).trans rfl)) (rc (pl P143_2 1) (st_load1 tA3 rfl ((blk_cell B_gb 0).trans rfl)) (rc (pl P143_2 2) (st_or (z := vn + (vb / 2)) rfl rfl hor) rn))) ?_; clear hE a; intro a hE
  refine p_cons (s_store (off := 0) (k := 1) (cs' := #[Value.int .i64 (vn + (vb / 2))]) (pl P143_2 3) hE wn_none tS3 rfl rfl rfl rfl B_gn (Nat.le_of_ble_eq_true rfl) rfl ?_)
  intro w3 B_gn' hk
  replace B_gb := kp_blk B_gb hk n_gb_gn
  replace K_0 := K_0.then_ hk (fun k h => by rw [show k = gn from h]; exact Or.inl (Or.inr rfl))
  replace B_gn := B_gn'
  clear hk
  refine p_nil (end_of_ret ?_)
  refine ret_list (rs := []) (vs := []) rfl hE .nil rfl ?_
  exact ⟨rfl, B_gb, by rw [hb2]; exact B_gn, K_0⟩
 ·
  rw [hb2] at hE
  refine c_cond (t := false) hE rfl ?_
  refine wp_skip (end_of_ret ?_)
  refine ret_list (rs := []) (vs := []) rfl hE .nil rfl ?_
  exact ⟨rfl, B_gb, by rw [hb2]; rw [show vn + (bif false then vb / 2 else 0) = vn from Int.add_zero vn]; exact B_gn, K_0⟩
theorem R123_0_l : List.range (regOf Try.f123 0).size = [0, 1] := by kernel_rfl
theorem R123_1_l : List.range (regOf Try.f123 1).size = [0, 1, 2, 3] := by kernel_rfl
theorem R123_2_l : List.range (regOf Try.f123 2).size = [0, 1] := by kernel_rfl
theorem R123_3_l : List.range (regOf Try.f123 3).size = [0, 1, 2, 3] := by kernel_rfl
theorem R123_4_l : List.range (regOf Try.f123 4).size = [0, 1, 2, 3] := by kernel_rfl
theorem R123_5_l : List.range (regOf Try.f123 5).size = [0, 1, 2, 3] := by kernel_rfl
theorem R123_6_l : List.range (regOf Try.f123 6).size = [0, 1] := by kernel_rfl
theorem body123 : Try.f123.body = some (.seq (.region 0 (regOf Try.f123 0) false) (.seq (.region 1 (regOf Try.f123 1) false) (.seq (.region 2 (regOf Try.f123 2) false) (.seq (.region 3 (regOf Try.f123 3) false) (.seq (.region 4 (regOf Try.f123 4) false) (.seq (.region 5 (regOf Try.f123 5) false) (.seq (.region 6 (regOf Try.f123 6) false) (.ret)))))))) := by kernel_rfl
theorem P123_0 : (List.range (regOf Try.f123 0).size).map (pj (regOf Try.f123 0)) = [zz 1 (.box 32 (.tmp 0)) 0, zz 2 (.assign (.const (.int .i64 0))) 3] := by kernel_rfl
theorem P123_1 : (List.range (regOf Try.f123 1).size).map (pj (regOf Try.f123 1)) = [zz 3 (.alloc 3) 0, zz 4 (.alloc 3) 0, some (none, .store 3 (.tmp 3) (.const (.int .i64 0)), 0, none), some (none, .store 3 (.tmp 4) (.const (.int .i64 256)), 0, none)] := by kernel_rfl
theorem tZ3 : (Try.prog.info? 3).bind (·.zero) = some (Value.int .i64 0) := by kernel_rfl
theorem P123_2 : (List.range (regOf Try.f123 2).size).map (pj (regOf Try.f123 2)) = [zz 6 (.makeFunc (.func 143) #[] #[.tmp 4, .tmp 3]) 245, zz 5 (.assign (.tmp 6)) 245] := by kernel_rfl
theorem P123_3 : (List.range (regOf Try.f123 3).size).map (pj (regOf Try.f123 3)) = [zz 7 (.move (.tmp 5)) 245, zz 8 (.fieldAddr 32 (.tmp 1) 0) 0, zz 9 (.load 4 (.tmp 8)) 4, zz 10 (.call { callee := .value (.tmp 7), args := #[.tmp 9], argTypes := #[4] }) 0] := by kernel_rfl
theorem tS4 : (Try.prog.info? 4).map (·.size) = some 1 := by kernel_rfl
theorem tA4 : (Try.prog.underlying 4).map aggD = some false := by kernel_rfl
theorem cl143 : callable Try.f143 = true := by kernel_rfl
theorem P123_4 : (List.range (regOf Try.f123 4).size).map (pj (regOf Try.f123 4)) = [zz 11 (.move (.tmp 5)) 245, zz 12 (.fieldAddr 32 (.tmp 1) 1) 0, zz 13 (.load 4 (.tmp 12)) 4, zz 14 (.call { callee := .value (.tmp 11), args := #[.tmp 13], argTypes := #[4] }) 0] := by kernel_rfl
theorem P123_5 : (List.range (regOf Try.f123 5).size).map (pj (regOf Try.f123 5)) = [zz 15 (.move (.tmp 5)) 245, zz 16 (.fieldAddr 32 (.tmp 1) 2) 0, zz 17 (.load 4 (.tmp 16)) 4, zz 18 (.call { callee := .value (.tmp 15), args := #[.tmp 17], argTypes := #[4] }) 0] := by kernel_rfl
theorem P123_6 : (List.range (regOf Try.f123 6).size).map (pj (regOf Try.f123 6)) = [zz 19 (.load 3 (.tmp 3)) 3, zz 2 (.assign (.tmp 19)) 3] := by kernel_rfl
set_option maxHeartbeats 4000000 in
theorem flags_any (dn wr fa : Bool) (ins rk : Int) (w : World) : Calls Try.prog 123 #[Value.agg #[Value.bool dn, Value.bool wr, Value.bool fa, Value.int .i64 ins, Value.int .i64 rk]] w fun e w' => e = .returned (.int .i64 (flagF dn wr fa)) ∧ Kp w w' (fun _ => False) := by
 have K_0 := Kp.refl w (fun _ => False)
 refine enter (args := [Value.agg #[Value.bool dn, Value.bool wr, Value.bool fa, Value.int .i64 ins, Value.int .i64 rk]]) (n := 20) Try.func123 body123 rfl rfl rfl ?_
 intro a hE
 refine c_reg R123_0_l ?_
 refine p_cons (s_box (pl P123_0 0) hE wn_none rfl rfl ?_)
 clear hE a; intro g1 w2 z3 B_g1 hk a hE
 replace B_g1 : w2.heap[g1]? = some (.cells #[Value.bool dn, Value.bool wr, Value.bool fa, Value.int .i64 ins, Value.int .i64 rk] 32 (0, 0)) := B_g1
 have z_0_g1 := Nat.le_trans K_0.kept.1 z3
 replace K_0 := K_0.then_ hk (fun _ h => h.elim)
 clear hk
 refine q0 (pl P123_0 1) hE (st_assign rfl) ?_; clear hE a; intro a hE
 refine p_nil (x_norm (c_reg R123_1_l ?_))
 refine p_cons (s_alloc (pl P123_1 0) hE wn_none rfl tZ3 ?_)
 clear hE a; intro g4 w5 z6 B_g4 hk a hE
 replace B_g4 : w5.heap[g4]? = some (.cells #[Value.int .i64 0] 3 (0, 0)) := B_g4
 have n_g1_g4 : g1 ≠ g4 := ne_new B_g1 z6
 have z_0_g4 := Nat.le_trans K_0.kept.1 z6
 replace B_g1 := kp_blk B_g1 hk (fun h => h)
 replace K_0 := K_0.then_ hk (fun _ h => h.elim)
 clear hk
 refine p_cons (s_alloc (pl P123_1 1) hE wn_none rfl tZ3 ?_)
 clear hE a; intro g7 w8 z9 B_g7 hk a hE
 replace B_g7 : w8.heap[g7]? = some (.cells #[Value.int .i64 0] 3 (0, 0)) := B_g7
 have n_g1_g7 : g1 ≠ g7 := ne_new B_g1 z9
 have n_g4_g7 : g4 ≠ g7 := ne_new B_g4 z9
 have z_0_g7 := Nat.le_trans K_0.kept.1 z9
 replace B_g1 := kp_blk B_g1 hk (fun h => h)
 replace B_g4 := kp_blk B_g4 hk (fun h => h)
 replace K_0 := K_0.then_ hk (fun _ h => h.elim)
 clear hk
 refine p_cons (s_store (off := 0) (k := 1) (cs' := #[Value.int .i64 0]) (pl P123_1 2) hE wn_none tS3 rfl rfl rfl rfl B_g4 (Nat.le_of_ble_eq_true rfl) rfl ?_)
 intro w10 B_g4' hk
 replace B_g1 := kp_blk B_g1 hk n_g1_g4
 replace B_g7 := kp_blk B_g7 hk (Ne.symm n_g4_g7)
 replace K_0 := K_0.then_ hk (fun k h => by rw [show k = g4 from h]; exact Or.inr z_0_g4)
 replace B_g4 := B_g4'
 clear hk
 refine p_cons (s_store (off := 0) (k := 1) (cs' := #[Value.int .i64 256]) (pl P123_1 3) hE wn_none tS3 rfl rfl rfl rfl B_g7 (Nat.le_of_ble_eq_true rfl) rfl ?_)
 intro w11 B_g7' hk
 replace B_g1 := kp_blk B_g1 hk n_g1_g7
 replace B_g4 := kp_blk B_g4 hk n_g4_g7
 replace K_0 := K_0.then_ hk (fun k h => by rw [show k = g7 from h]; exact Or.inr z_0_g7)
 replace B_g7 := B_g7'
 clear hk
 refine p_nil (x_norm (c_reg R123_2_l ?_))
 refine qn hE (rc (pl P123_2 0) (st_func (first := []) (captured := [Operand.tmp 4, Operand.tmp 3]) rfl rfl) (rc (pl P123_2 1) (st_assign rfl) rn)) ?_; clear hE a; intro a hE
 refine p_nil (x_norm (c_reg R123_3_l ?_))
 refine qn hE (rc (pl P123_3 0) (st_move rfl) (rc (pl P123_3 1) (st_fieldAddr Try.underlying32 rfl tS4 rfl rfl) (rc (pl P123_3 2) (st_load1 tA4 rfl ((blk_cell B_g1 0).trans rfl)) rn))) ?_; clear hE a; intro a hE
 refine p_cons (s_callv (fst := []) (cap := [Value.pointer (some ⟨g7, 0, none⟩), Value.pointer (some ⟨g4, 0, none⟩)]) (xs := [Operand.tmp 9]) (args := [Value.bool dn]) (pl P123_3 3) hE wn_none rfl rfl rfl Try.func143 cl143 (flag_next dn g7 g4 256 0 (Ne.symm n_g4_g7) (by decide) (by decide) (by decide) _ B_g7 B_g4) ?_)
 rintro e w12 ⟨rfl, B_g7', B_g4', hk⟩
 replace B_g7' : w12.heap[g7]? = some (.cells #[.int .i64 128] 3 (0, 0)) := B_g7'
 replace B_g4' : w12.heap[g4]? = some (.cells #[.int .i64 (0 + bif dn then 128 else 0)] 3 (0, 0)) := B_g4'
 replace B_g1 := kp_blk B_g1 hk (fun h => h.elim n_g1_g7 n_g1_g4)
 replace K_0 := K_0.then_ hk (fun k h => h.elim (fun h => by rw [show k = g7 from h]; exact Or.inr z_0_g7) (fun h => by rw [show k = g4 from h]; exact Or.inr z_0_g4))
 replace B_g7 := B_g7'
 replace B_g4 := B_g4'
 refine ⟨_, rfl, ?_⟩; clear hE a; intro a hE
 refine p_nil (x_norm (c_reg R123_4_l ?_))
 refine qn hE (rc (pl P123_4 0) (st_move rfl) (rc (pl P123_4 1) (st_fieldAddr Try.underlying32 rfl tS4 rfl rfl) (rc (pl P123_4 2) (st_load1 tA4 rfl ((blk_cell B_g1 1).trans rfl)) rn))) ?_; clear hE a; intro a hE
 refine p_cons (s_callv (fst := []) (cap := [Value.pointer (some ⟨g7, 0, none⟩), Value.pointer (some ⟨g4, 0, none⟩)]) (xs := [Operand.tmp 13]) (args := [Value.bool wr]) (pl P123_4 3) hE wn_none rfl rfl rfl Try.func143 cl143 (flag_next wr g7 g4 128 (0 + bif dn then 128 else 0) (Ne.symm n_g4_g7) (by decide) (by decide) (by cases dn <;> decide) _ B_g7 B_g4) ?_)
 rintro e w13 ⟨rfl, B_g7', B_g4', hk⟩
 replace B_g7' : w13.heap[g7]? = some (.cells #[.int .i64 64] 3 (0, 0)) := B_g7'
 replace B_g4' : w13.heap[g4]? = some (.cells #[.int .i64 ((0 + bif dn then 128 else 0) + bif wr then 64 else 0)] 3 (0, 0)) := B_g4'
 replace B_g1 := kp_blk B_g1 hk (fun h => h.elim n_g1_g7 n_g1_g4)
 replace K_0 := K_0.then_ hk (fun k h => h.elim (fun h => by rw [show k = g7 from h]; exact Or.inr z_0_g7) (fun h => by rw [show k = g4 from h]; exact Or.inr z_0_g4))
 replace B_g7 := B_g7'
 replace B_g4 := B_g4'
 refine ⟨_, rfl, ?_⟩; clear hE a; intro a hE
 refine p_nil (x_norm (c_reg R123_5_l ?_))
 refine qn hE (rc (pl P123_5 0) (st_move rfl) (rc (pl P123_5 1) (st_fieldAddr Try.underlying32 rfl tS4 rfl rfl) (rc (pl P123_5 2) (st_load1 tA4 rfl ((blk_cell B_g1 2).trans rfl)) rn))) ?_; clear hE a; intro a hE
 refine p_cons (s_callv (fst := []) (cap := [Value.pointer (some ⟨g7, 0, none⟩), Value.pointer (some ⟨g4, 0, none⟩)]) (xs := [Operand.tmp 17]) (args := [Value.bool fa]) (pl P123_5 3) hE wn_none rfl rfl rfl Try.func143 cl143 (flag_next fa g7 g4 64 ((0 + bif dn then 128 else 0) + bif wr then 64 else 0) (Ne.symm n_g4_g7) (by decide) (by decide) (by cases dn <;> cases wr <;> decide) _ B_g7 B_g4) ?_)
 rintro e w14 ⟨rfl, B_g7', B_g4', hk⟩
 replace B_g7' : w14.heap[g7]? = some (.cells #[.int .i64 32] 3 (0, 0)) := B_g7'
 replace B_g4' : w14.heap[g4]? = some (.cells #[.int .i64 (((0 + bif dn then 128 else 0) + bif wr then 64 else 0) + bif fa then 32 else 0)] 3 (0, 0)) := B_g4'
 replace B_g1 := kp_blk B_g1 hk (fun h => h.elim n_g1_g7 n_g1_g4)
 replace K_0 := K_0.then_ hk (fun k h => h.elim (fun h => by rw [show k = g7 from h]; exact Or.inr z_0_g7) (fun h => by rw [show k = g4 from h]; exact Or.inr z_0_g4))
 replace B_g7 := B_g7'
 replace B_g4 := B_g4'
 refine ⟨_, rfl, ?_⟩; clear hE a; intro a hE
 refine p_nil (x_norm (c_reg R123_6_l ?_))
 refine qn hE (rc (pl P123_6 0) (st_load1 tA3 rfl ((blk_cell B_g4 0).trans rfl)) (rc (pl P123_6 1) (st_assign rfl) rn)) ?_; clear hE a; intro a hE
 refine p_nil (x_norm (wp_ret ?_))
 refine ret_one (v := Value.int .i64 (((0 + bif dn then 128 else 0) + bif wr then 64 else 0) + bif fa then 32 else 0)) rfl hE (.tmp rfl .nil) ?_
 exact ⟨rfl, K_0⟩
theorem R80_0_l : List.range (regOf Try.f80 0).size = [0, 1, 2] := by kernel_rfl
theorem R80_1_l : List.range (regOf Try.f80 1).size = [0, 1, 2, 3] := by kernel_rfl
theorem R80_3_l : List.range (regOf Try.f80 3).size = [0, 1, 2] := by kernel_rfl
theorem R80_4_l : List.range (regOf Try.f80 4).size = [0, 1] := by kernel_rfl
theorem R80_5_l : List.range (regOf Try.f80 5).size = [0, 1, 2] := by kernel_rfl
theorem R80_7_l : List.range (regOf Try.f80 7).size = [0, 1] := by kernel_rfl
theorem R80_9_l : List.range (regOf Try.f80 9).size = [0, 1, 2, 3, 4, 5, 6, 7, 8] := by kernel_rfl
theorem body80 : Try.f80.body = some (.seq (.region 0 (regOf Try.f80 0) false) (.seq (.seq (.region 1 (regOf Try.f80 1) false) (.cond (Operand.tmp 12) (.seq (.region 2 (regOf Try.f80 2) false) (.ret)) (.skip))) (.seq (.seq (.region 3 (regOf Try.f80 3) false) (.seq (.region 4 (regOf Try.f80 4) false) (.cond (Operand.tmp 16) (.seq (.region 5 (regOf Try.f80 5) false) (.ret)) (.skip)))) (.seq (.region 6 (regOf Try.f80 6) true) (.seq (.seq (.region 7 (regOf Try.f80 7) false) (.cond (Operand.tmp 29) (.seq (.region 8 (regOf Try.f80 8) false) (.ret)) (.skip))) (.seq (.region 9 (regOf Try.f80 9) false) (.ret))))))) := by kernel_rfl
theorem P80_0 : (List.range (regOf Try.f80 0).size).map (pj (regOf Try.f80 0)) = [zz 3 (.box 32 (.tmp 1)) 0, zz 4 (.assign (.const (.slice none 0 0))) 33, zz 5 (.assign (.const (.int .i64 0))) 36] := by kernel_rfl
theorem P80_1 : (List.range (regOf Try.f80 1).size).map (pj (regOf Try.f80 1)) = [zz 9 (.move (.tmp 0)) 3, zz 10 (.buildSlice 22 1 #[(0, .tmp 9)]) 22, zz 11 (.call { callee := .value (.func 47), args := #[.const (.int .i64 1), .tmp 10], argTypes := #[3, 22] }) 4, zz 12 (.unOp .not 4 (.tmp 11)) 4] := by kernel_rfl
theorem P80_3 : (List.range (regOf Try.f80 3).size).map (pj (regOf Try.f80 3)) = [zz 13 (.load 32 (.tmp 3)) 32, zz 14 (.call { callee := .value (.func 122), args := #[.tmp 13], argTypes := #[32] }) 36, zz 6 (.assign (.tmp 14)) 36] := by kernel_rfl
theorem tA32 : (Try.prog.underlying 32).map aggD = some true := by kernel_rfl
theorem tS32 : (Try.prog.info? 32).map (·.size) = some 5 := by kernel_rfl
theorem cl122 : callable Try.f122 = true := by kernel_rfl
theorem P80_4 : (List.range (regOf Try.f80 4).size).map (pj (regOf Try.f80 4)) = [zz 15 (.move (.tmp 6)) 36, zz 16 (.binOp .neq 36 (.tmp 15) (.const (.int .i64 0)) 36) 4] := by kernel_rfl
theorem P80_5 : (List.range (regOf Try.f80 5).size).map (pj (regOf Try.f80 5)) = [zz 17 (.move (.tmp 6)) 36, zz 4 (.assign (.const (.slice none 0 0))) 33, zz 5 (.assign (.tmp 17)) 36] := by kernel_rfl
set_option maxHeartbeats 4000000 in
theorem oenc_bad (n : Int) (dn wr fa : Bool) (ins rk : Int) (hn : 0 ≤ n ∧ n < 256) (hok : okO ins rk = false) (w : World) : Calls Try.prog 80 #[.int .i64 n, Value.agg #[Value.bool dn, Value.bool wr, Value.bool fa, Value.int .i64 ins, Value.int .i64 rk]] w fun e w' => e = .returned (.tuple #[.slice none 0 0, .int .i64 1]) ∧ Kp w w' (fun _ => False) := by
 have K_0 := Kp.refl w (fun _ => False)
 refine enter (args := [Value.int .i64 n, Value.agg #[Value.bool dn, Value.bool wr, Value.bool fa, Value.int .i64 ins, Value.int .i64 rk]]) (n := 38) Try.func80 body80 rfl rfl rfl ?_
 intro a hE
 refine c_reg R80_0_l ?_
 refine p_cons (s_box (pl P80_0 0) hE wn_none rfl rfl ?_)
 clear hE a; intro g1 w2 z3 B_g1 hk a hE
 replace B_g1 : w2.heap[g1]? = some (.cells #[Value.bool dn, Value.bool wr, Value.bool fa, Value.int .i64 ins, Value.int .i64 rk] 32 (0, 0)) := B_g1
 have z_0_g1 := Nat.le_trans K_0.kept.1 z3
 replace K_0 := K_0.then_ hk (fun _ h => h.elim)
 clear hk
 refine qn hE (rc (pl P80_0 1) (st_assign rfl) (rc (pl P80_0 2) (st_assign rfl) rn)) ?_; clear hE a; intro a hE
 refine p_nil (x_norm (wp_seq (c_reg R80_1_l ?_)))
 refine q0 (pl P80_1 0) hE (st_move rfl) ?_; clear hE a; intro a hE
 refine p_cons (s_row (xs := [(0, Operand.tmp 9)]) (vs := [(0, Value.int .i64 n)]) (cs := #[Value.int .i64 n]) (pl P80_1 1) hE wn_none rfl Try.underlying22 rfl (by kernel_rfl) ?_)
 clear hE a; intro g4 w5 z6 B_g4 hk a hE
 have n_g1_g4 : g1 ≠ g4 := ne_new B_g1 z6
 have z_0_g4 := Nat.le_trans K_0.kept.1 z6
 replace B_g1 := kp_blk B_g1 hk (fun h => h)
 replace K_0 := K_0.then_ hk (fun _ h => h.elim)
 clear hk
 refine p_cons (s_call (xs := [Operand.const (Value.int IntKind.i64 1), Operand.tmp 10]) (args := [Value.int .i64 1, Value.slice (some ⟨g4, 0, none⟩) 1 1]) (pl P80_1 2) hE wn_none rfl rfl Try.func47 cl47 (fits_any (some ⟨g4, 0, none⟩) 1 1 [n] (fitsF 1 [n]) rfl _ (C_blk (k := .i64) (l := [n]) (off := 0) B_g4 ⟨rfl, Nat.le_of_ble_eq_true rfl⟩ rfl) (Nat.le_of_ble_eq_true rfl)) ?_)
 rintro e w7 ⟨he, hk⟩
 obtain rfl := he.trans (congrArg (fun b => Ending.returned (Value.bool b)) (show fitsF 1 [n] = true by rw [fits_one]; exact decide_eq_true hn))
 replace B_g1 := kp_blk B_g1 hk (fun h => h)
 replace B_g4 := kp_blk B_g4 hk (fun h => h)
 replace K_0 := K_0.then_ hk (fun _ h => h.elim)
 refine ⟨_, rfl, ?_⟩; clear hE a; intro a hE
 refine q0 (pl P80_1 3) hE (st_not rfl rfl) ?_; clear hE a; intro a hE
 refine p_nil (x_norm ?_)
 refine c_cond (t := false) hE rfl ?_
 refine wp_skip (x_norm (wp_seq (c_reg R80_3_l ?_)))
 refine q0 (pl P80_3 0) hE (st_loadN (off := 0) (k := 5) (vs := [Value.bool dn, Value.bool wr, Value.bool fa, Value.int .i64 ins, Value.int .i64 rk]) tA32 tS32 rfl B_g1 rfl rfl) ?_; clear hE a; intro a hE
 refine p_cons (s_call (xs := [Operand.tmp 13]) (args := [Value.agg #[Value.bool dn, Value.bool wr, Value.bool fa, Value.int .i64 ins, Value.int .i64 rk]]) (pl P80_3 1) hE wn_none rfl rfl Try.func122 cl122 (ocheck dn wr fa ins rk _) ?_)
 rintro e w8 ⟨rfl, hk⟩
 replace B_g1 := kp_blk B_g1 hk (fun h => h)
 replace B_g4 := kp_blk B_g4 hk (fun h => h)
 replace K_0 := K_0.then_ hk (fun _ h => h.elim)
 refine ⟨_, rfl, ?_⟩; clear hE a; intro a hE
 refine q0 (pl P80_3 2) hE (st_assign rfl) ?_; clear hE a; intro a hE
 refine p_nil (x_norm (c_reg R80_4_l ?_))
 refine qn hE (rc (pl P80_4 0) (st_move rfl) (rc (pl P80_4 1) (st_neq (b := true) rfl rfl (by rw [hok]; rfl)) rn)) ?_; clear hE a; intro a hE
 refine p_nil (x_norm ?_)
 refine c_cond (t := true) hE rfl ?_
 refine c_reg R80_5_l ?_
 refine qn hE (rc (pl P80_5 0) (st_move rfl) (rc (pl P80_5 1) (st_assign rfl) (rc (pl P80_5 2) (st_assign rfl) rn))) ?_; clear hE a; intro a hE
 refine p_nil (x_norm (wp_ret (x_ret ?_)))
 refine ret_list (rs := [.tmp 4, .tmp 5]) (vs := [Value.slice none 0 0, Value.int .i64 (bif okO ins rk then 0 else 1)]) rfl hE (.tmp rfl (.tmp rfl .nil)) rfl ?_
 exact ⟨by rw [hok]; rfl, K_0⟩
theorem ns80_6 : Region.noSelect (regOf Try.f80 6) = true := by kernel_rfl
theorem p80_6_0 : pj (regOf Try.f80 6) 0 = some (some 19, .move (.tmp 0), 3, none) := by kernel_rfl
theorem p80_6_1 : pj (regOf Try.f80 6) 1 = some (some 20, .load 32 (.tmp 3), 32, none) := by kernel_rfl
theorem p80_6_3 : pj (regOf Try.f80 6) 3 = some (some 22, .fieldAddr 32 (.tmp 3) 3, 0, none) := by kernel_rfl
theorem p80_6_4 : pj (regOf Try.f80 6) 4 = some (some 23, .load 3 (.tmp 22), 3, none) := by kernel_rfl
theorem p80_6_2 : pj (regOf Try.f80 6) 2 = some (some 21, .call { callee := .value (.func 123), args := #[.tmp 20], argTypes := #[32] }, 3, none) := by kernel_rfl
theorem cl123 : callable Try.f123 = true := by kernel_rfl
theorem p80_6_5 : pj (regOf Try.f80 6) 5 = some (some 24, .buildSlice 22 6 #[(0, .tmp 19), (1, .const (.int .i64 0)), (2, .const (.int .i64 99)), (3, .const (.int .i64 4)), (4, .tmp 21), (5, .tmp 23)], 22, none) := by kernel_rfl
theorem p80_6_6 : pj (regOf Try.f80 6) 6 = some (some 25, .call { callee := .value (.func 81), args := #[.const (.slice none 0 0), .const (.int .i64 1), .tmp 24], argTypes := #[33, 3, 22] }, 60, none) := by kernel_rfl
theorem cl81 : callable Try.f81 = true := by kernel_rfl
theorem p80_6_7 : pj (regOf Try.f80 6) 7 = some (some 18, .move (.tmp 25), 60, none) := by kernel_rfl
theorem p80_6_8 : pj (regOf Try.f80 6) 8 = some (some 26, .extract (.tmp 18) 0, 33, none) := by kernel_rfl
theorem p80_6_9 : pj (regOf Try.f80 6) 9 = some (some 27, .extract (.tmp 18) 1, 36, none) := by kernel_rfl
theorem p80_6_10 : pj (regOf Try.f80 6) 10 = some (some 7, .assign (.tmp 26), 33, none) := by kernel_rfl
theorem p80_6_11 : pj (regOf Try.f80 6) 11 = some (some 8, .assign (.tmp 27), 36, none) := by kernel_rfl
theorem P80_7 : (List.range (regOf Try.f80 7).size).map (pj (regOf Try.f80 7)) = [zz 28 (.move (.tmp 8)) 36, zz 29 (.binOp .neq 36 (.tmp 28) (.const (.int .i64 0)) 36) 4] := by kernel_rfl
theorem P80_9 : (List.range (regOf Try.f80 9).size).map (pj (regOf Try.f80 9)) = [zz 31 (.move (.tmp 7)) 33, zz 32 (.fieldAddr 32 (.tmp 3) 4) 0, zz 33 (.load 3 (.tmp 32)) 3, zz 34 (.buildSlice 22 1 #[(0, .tmp 33)]) 22, zz 35 (.call { callee := .value (.func 81), args := #[.tmp 31, .const (.int .i64 2), .tmp 34], argTypes := #[33, 3, 22] }) 60, zz 36 (.extract (.tmp 35) 0) 33, zz 37 (.extract (.tmp 35) 1) 36, zz 4 (.assign (.tmp 36)) 33, zz 5 (.assign (.tmp 37)) 36] := by kernel_rfl
set_option maxHeartbeats 4000000 in
theorem oenc_ok (n : Int) (dn wr fa : Bool) (ins rk : Int) (hn : 0 ≤ n ∧ n < 256) (hok : okO ins rk = true) (w : World) : Calls Try.prog 80 #[.int .i64 n, Value.agg #[Value.bool dn, Value.bool wr, Value.bool fa, Value.int .i64 ins, Value.int .i64 rk]] w fun e w' => ∃ A c', e = .returned (.tuple #[.slice A 8 c', .int .i64 0]) ∧ w'.ownsRow w.heap.size 5 1 (.slice A 8 c') 8 (encs (Value.int .u8) (hopB n dn wr fa ins rk)) ∧ Kp w w' (fun _ => False) := by
 have K_0 := Kp.refl w (fun _ => False)
 have hob := okO_b hok
 have hfb := flag_b dn wr fa
 refine enter (args := [Value.int .i64 n, Value.agg #[Value.bool dn, Value.bool wr, Value.bool fa, Value.int .i64 ins, Value.int .i64 rk]]) (n := 38) Try.func80 body80 rfl rfl rfl ?_
 intro a hE
 refine c_reg R80_0_l ?_
 refine p_cons (s_box (pl P80_0 0) hE wn_none rfl rfl ?_)
 clear hE a; intro g1 w2 z3 B_g1 hk a hE
 replace B_g1 : w2.heap[g1]? = some (.cells #[Value.bool dn, Value.bool wr, Value.bool fa, Value.int .i64 ins, Value.int .i64 rk] 32 (0, 0)) := B_g1
 have z_0_g1 := Nat.le_trans K_0.kept.1 z3
 replace K_0 := K_0.then_ hk (fun _ h => h.elim)
 clear hk
 refine qn hE (rc (pl P80_0 1) (st_assign rfl) (rc (pl P80_0 2) (st_assign rfl) rn)) ?_; clear hE a; intro a hE
 refine p_nil (x_norm (wp_seq (c_reg R80_1_l ?_)))
 refine q0 (pl P80_1 0) hE (st_move rfl) ?_; clear hE a; intro a hE
 refine p_cons (s_row (xs := [(0, Operand.tmp 9)]) (vs := [(0, Value.int .i64 n)]) (cs := #[Value.int .i64 n]) (pl P80_1 1) hE wn_none rfl Try.underlying22 rfl (by kernel_rfl) ?_)
 clear hE a; intro g4 w5 z6 B_g4 hk a hE
 have n_g1_g4 : g1 ≠ g4 := ne_new B_g1 z6
 have z_0_g4 := Nat.le_trans K_0.kept.1 z6
 replace B_g1 := kp_blk B_g1 hk (fun h => h)
 replace K_0 := K_0.then_ hk (fun _ h => h.elim)
 clear hk
 refine p_cons (s_call (xs := [Operand.const (Value.int IntKind.i64 1), Operand.tmp 10]) (args := [Value.int .i64 1, Value.slice (some ⟨g4, 0, none⟩) 1 1]) (pl P80_1 2) hE wn_none rfl rfl Try.func47 cl47 (fits_any (some ⟨g4, 0, none⟩) 1 1 [n] (fitsF 1 [n]) rfl _ (C_blk (k := .i64) (l := [n]) (off := 0) B_g4 ⟨rfl, Nat.le_of_ble_eq_true rfl⟩ rfl) (Nat.le_of_ble_eq_true rfl)) ?_)
 rintro e w7 ⟨he, hk⟩
 obtain rfl := he.trans (congrArg (fun b => Ending.returned (Value.bool b)) (show fitsF 1 [n] = true by rw [fits_one]; exact decide_eq_true hn))
 replace B_g1 := kp_blk B_g1 hk (fun h => h)
 replace B_g4 := kp_blk B_g4 hk (fun h => h)
 replace K_0 := K_0.then_ hk (fun _ h => h.elim)
 refine ⟨_, rfl, ?_⟩; clear hE a; intro a hE
 refine q0 (pl P80_1 3) hE (st_not rfl rfl) ?_; clear hE a; intro a hE
 refine p_nil (x_norm ?_)
 refine c_cond (t := false) hE rfl ?_
 refine wp_skip (x_norm (wp_seq (c_reg R80_3_l ?_)))
 refine q0 (pl P80_3 0) hE (st_loadN (off := 0) (k := 5) (vs := [Value.bool dn, Value.bool wr, Value.bool fa, Value.int .i64 ins, Value.int .i64 rk]) tA32 tS32 rfl B_g1 rfl rfl) ?_; clear hE a; intro a hE
 refine p_cons (s_call (xs := [Operand.tmp 13]) (args := [Value.agg #[Value.bool dn, Value.bool wr, Value.bool fa, Value.int .i64 ins, Value.int .i64 rk]]) (pl P80_3 1) hE wn_none rfl rfl Try.func122 cl122 (ocheck dn wr fa ins rk _) ?_)
 rintro e w8 ⟨rfl, hk⟩
 replace B_g1 := kp_blk B_g1 hk (fun h => h)
 replace B_g4 := kp_blk B_g4 hk (fun h => h)
 replace K_0 := K_0.then_ hk (fun _ h => h.elim)
 refine ⟨_, rfl, ?_⟩; clear hE a; intro a hE
 refine q0 (pl P80_3 2) hE (st_assign rfl) ?_; clear hE a; intro a hE
 refine p_nil (x_norm (c_reg R80_4_l ?_))
 refine qn hE (rc (pl P80_4 0) (st_move rfl) (rc (pl P80_4 1) (st_neq (b := false) rfl rfl (by rw [hok]; rfl)) rn)) ?_; clear hE a; intro a hE
 refine p_nil (x_norm ?_)
 refine c_cond (t := false) hE rfl ?_
 refine wp_skip (x_norm ?_)
 refine c_drawS (S := fun W => W.heap[g1]? = some (.cells #[Value.bool dn, Value.bool wr, Value.bool fa, Value.int .i64 ins, Value.int .i64 rk] 32 (0, 0)) ∧ W.heap[g4]? = some (.cells #[Value.int .i64 n] 3 (0, 0)) ∧ True) rfl rfl (listed := #[ι, ι, ι, ι, ι, ι, ι, ι, ι, ι, ι, ι]) rfl ?_
 intro w9 hh hk
 replace B_g1 := kp_blk B_g1 hk (fun h => h)
 replace B_g4 := kp_blk B_g4 hk (fun h => h)
 replace K_0 := K_0.then_ hk (fun _ h => h.elim)
 clear hh hk
 refine Rv.dm ns80_6 hE ⟨B_g1, B_g4, trivial⟩ (Rv.dc p80_6_0 (fun W hS => (st_move rfl)) rfl (Rv.dc (v := Value.agg #[Value.bool dn, Value.bool wr, Value.bool fa, Value.int .i64 ins, Value.int .i64 rk]) p80_6_1 (fun W hS => (st_loadN (off := 0) (k := 5) (vs := [Value.bool dn, Value.bool wr, Value.bool fa, Value.int .i64 ins, Value.int .i64 rk]) tA32 tS32 rfl hS.1 rfl rfl)) rfl (Rv.dc (v := Value.pointer (some ⟨g1, 3, none⟩)) p80_6_3 (fun W hS => (st_fieldAddr Try.underlying32 rfl tS3 rfl rfl)) rfl (Rv.dc (v := Value.int .i64 ins) p80_6_4 (fun W hS => (st_load1 tA3 rfl ((blk_cell hS.1 3).trans rfl))) rfl Rv.dn)))) ?_; clear hE a; intro a hE
 refine d_one (by kernel_rfl) rfl (s_call (xs := [Operand.tmp 20]) (args := [Value.agg #[Value.bool dn, Value.bool wr, Value.bool fa, Value.int .i64 ins, Value.int .i64 rk]]) p80_6_2 hE wn_none rfl rfl Try.func123 cl123 (flags_any dn wr fa ins rk _) ?_)
 rintro e w10 ⟨rfl, hk⟩
 replace B_g1 := kp_blk B_g1 hk (fun h => h)
 replace B_g4 := kp_blk B_g4 hk (fun h => h)
 replace K_0 := K_0.then_ hk (fun _ h => h.elim)
 refine ⟨_, rfl, ?_⟩; clear hE a; intro a hE
 refine ⟨⟨B_g1, B_g4, trivial⟩, ?_⟩
 refine d_one (by kernel_rfl) rfl (s_row (xs := [(0, Operand.tmp 19), (1, Operand.const (Value.int IntKind.i64 0)), (2, Operand.const (Value.int IntKind.i64 99)), (3, Operand.const (Value.int IntKind.i64 4)), (4, Operand.tmp 21), (5, Operand.tmp 23)]) (vs := [(0, Value.int .i64 n), (1, Value.int .i64 0), (2, Value.int .i64 99), (3, Value.int .i64 4), (4, Value.int .i64 (flagF dn wr fa)), (5, Value.int .i64 ins)]) (cs := #[Value.int .i64 n, Value.int .i64 0, Value.int .i64 99, Value.int .i64 4, Value.int .i64 (flagF dn wr fa), Value.int .i64 ins]) p80_6_5 hE wn_none rfl Try.underlying22 rfl (by kernel_rfl) ?_)
 clear hE a; intro g11 w12 z13 B_g11 hk a hE
 have n_g1_g11 : g1 ≠ g11 := ne_new B_g1 z13
 have n_g4_g11 : g4 ≠ g11 := ne_new B_g4 z13
 have z_0_g11 := Nat.le_trans K_0.kept.1 z13
 replace B_g1 := kp_blk B_g1 hk (fun h => h)
 replace B_g4 := kp_blk B_g4 hk (fun h => h)
 replace K_0 := K_0.then_ hk (fun _ h => h.elim)
 clear hk
 refine ⟨⟨B_g1, B_g4, trivial⟩, ?_⟩
 have hnb_g1 := blk_lt B_g1
 have hnb_g4 := blk_lt B_g4
 have hnb_g11 := blk_lt B_g11
 have hnz_0 := K_0.kept.1
 refine d_one (by kernel_rfl) rfl (s_call (xs := [Operand.const (Value.slice none 0 0), Operand.const (Value.int IntKind.i64 1), Operand.tmp 24]) (args := [Value.slice none 0 0, Value.int .i64 1, Value.slice (some ⟨g11, 0, none⟩) 6 6]) p80_6_6 hE wn_none rfl rfl Try.func81 cl81 (put_ok none (some ⟨g11, 0, none⟩) 0 6 1 ([]) ([n, 0, 99, 4, (flagF dn wr fa), ins]) 6 rfl (fits1 (by intro y hy; simp only [List.mem_cons, List.not_mem_nil, or_false] at hy; rcases hy with rfl | rfl | rfl | rfl | rfl | rfl <;> omega)) _ (Kd.C_nil _ _) (C_blk (k := .i64) (l := [n, 0, 99, 4, (flagF dn wr fa), ins]) (off := 0) B_g11 ⟨rfl, Nat.le_of_ble_eq_true rfl⟩ rfl) (Nat.le_of_ble_eq_true rfl) (Nat.le_of_ble_eq_true rfl)) ?_)
 rintro e w17 ⟨v9, rfl, O_q14, hb9⟩
 have hk := Kp.of_below hb9 (fun _ => False)
 change World.ownsRow _ _ 5 1 v9 6 (encs (Value.int .u8) (putF 1 [n, 0, 99, 4, (flagF dn wr fa), ins])) at O_q14
 obtain ⟨A15, c16, rfl⟩ := own_sl O_q14
 replace B_g1 := kp_blk B_g1 hk (fun h => h)
 replace B_g4 := kp_blk B_g4 hk (fun h => h)
 replace B_g11 := kp_blk B_g11 hk (fun h => h)
 replace K_0 := K_0.then_ hk (fun _ h => h.elim)
 have Nb_q14_g1 : ¬ OB A15 g1 := fun h => by have := (own_ob O_q14 h).1; have := hnb_g1; omega
 have Nb_q14_g4 : ¬ OB A15 g4 := fun h => by have := (own_ob O_q14 h).1; have := hnb_g4; omega
 have Nb_q14_g11 : ¬ OB A15 g11 := fun h => by have := (own_ob O_q14 h).1; have := hnb_g11; omega
 have Z_0_q14 : ∀ k, OB A15 k → (fun _ => False) k ∨ w.heap.size ≤ k := fun k h => .inr (by have := (own_ob O_q14 h).1; have := hnz_0; omega)
 replace O_q14 := own_lower O_q14 hnz_0
 refine ⟨_, rfl, ?_⟩; clear hE a; intro a hE
 refine ⟨⟨B_g1, B_g4, trivial⟩, ?_⟩
 refine Rv.dm ns80_6 hE ⟨B_g1, B_g4, trivial⟩ (Rv.dc p80_6_7 (fun W hS => (st_move rfl)) rfl (Rv.dc p80_6_8 (fun W hS => (st_extract rfl rfl)) rfl (Rv.dc p80_6_9 (fun W hS => (st_extract rfl rfl)) rfl (Rv.dc p80_6_10 (fun W hS => (st_assign rfl)) rfl (Rv.dc p80_6_11 (fun W hS => (st_assign rfl)) rfl Rv.dn))))) ?_; clear hE a; intro a hE
 refine d_end (by kernel_rfl) ?_
 refine x_norm (wp_seq (c_reg R80_7_l ?_))
 refine qn hE (rc (pl P80_7 0) (st_move rfl) (rc (pl P80_7 1) (st_neq (b := false) rfl rfl (by decide)) rn)) ?_; clear hE a; intro a hE
 refine p_nil (x_norm ?_)
 refine c_cond (t := false) hE rfl ?_
 refine wp_skip (x_norm (c_reg R80_9_l ?_))
 refine qn hE (rc (pl P80_9 0) (st_move rfl) (rc (pl P80_9 1) (st_fieldAddr Try.underlying32 rfl tS3 rfl rfl) (rc (pl P80_9 2) (st_load1 tA3 rfl ((blk_cell B_g1 4).trans rfl)) rn))) ?_; clear hE a; intro a hE
 refine p_cons (s_row (xs := [(0, Operand.tmp 33)]) (vs := [(0, Value.int .i64 rk)]) (cs := #[Value.int .i64 rk]) (pl P80_9 3) hE wn_none rfl Try.underlying22 rfl (by kernel_rfl) ?_)
 clear hE a; intro g18 w19 z20 B_g18 hk a hE
 have n_g1_g18 : g1 ≠ g18 := ne_new B_g1 z20
 have n_g4_g18 : g4 ≠ g18 := ne_new B_g4 z20
 have n_g11_g18 : g11 ≠ g18 := ne_new B_g11 z20
 have z_0_g18 := Nat.le_trans K_0.kept.1 z20
 have Nb_q14_g18 : ¬ OB A15 g18 := fun h => by have := (own_ob O_q14 h).2; omega
 replace B_g1 := kp_blk B_g1 hk (fun h => h)
 replace B_g4 := kp_blk B_g4 hk (fun h => h)
 replace B_g11 := kp_blk B_g11 hk (fun h => h)
 replace O_q14 := own_keep O_q14 hk (fun _ _ h => h)
 replace K_0 := K_0.then_ hk (fun _ h => h.elim)
 clear hk
 have hnb_g1 := blk_lt B_g1
 have hnb_g4 := blk_lt B_g4
 have hnb_g11 := blk_lt B_g11
 have hnb_g18 := blk_lt B_g18
 have hnz_0 := K_0.kept.1
 have hno_q14 := fun k (h : OB A15 k) => (own_ob O_q14 h).2
 refine p_cons (s_call (xs := [Operand.tmp 31, Operand.const (Value.int IntKind.i64 2), Operand.tmp 34]) (args := [Value.slice A15 6 c16, Value.int .i64 2, Value.slice (some ⟨g18, 0, none⟩) 1 1]) (pl P80_9 4) hE wn_none rfl rfl Try.func81 cl81 (put_ok A15 (some ⟨g18, 0, none⟩) c16 1 2 (putF 1 [n, 0, 99, 4, (flagF dn wr fa), ins]) ([rk]) 1 rfl (by rw [fits_two]; exact decide_eq_true hob.2) _ (own_told O_q14) (C_blk (k := .i64) (l := [rk]) (off := 0) B_g18 ⟨rfl, Nat.le_of_ble_eq_true rfl⟩ rfl) (Nat.le_of_ble_eq_true rfl) (Nat.le_of_ble_eq_true rfl)) ?_)
 rintro e w24 ⟨v9, rfl, O_q21, hb9⟩
 have hk := Kp.of_below hb9 (fun _ => False)
 change World.ownsRow _ _ 5 1 v9 8 (encs (Value.int .u8) ((putF 1 [n, 0, 99, 4, (flagF dn wr fa), ins]) ++ putF 2 [rk])) at O_q21
 obtain ⟨A22, c23, rfl⟩ := own_sl O_q21
 replace B_g1 := kp_blk B_g1 hk (fun h => h)
 replace B_g4 := kp_blk B_g4 hk (fun h => h)
 replace B_g11 := kp_blk B_g11 hk (fun h => h)
 replace B_g18 := kp_blk B_g18 hk (fun h => h)
 replace O_q14 := own_keep O_q14 hk (fun _ _ h => h)
 replace K_0 := K_0.then_ hk (fun _ h => h.elim)
 have Nb_q21_g1 : ¬ OB A22 g1 := fun h => by have := (own_ob O_q21 h).1; have := hnb_g1; omega
 have Nb_q21_g4 : ¬ OB A22 g4 := fun h => by have := (own_ob O_q21 h).1; have := hnb_g4; omega
 have Nb_q21_g11 : ¬ OB A22 g11 := fun h => by have := (own_ob O_q21 h).1; have := hnb_g11; omega
 have Nb_q21_g18 : ¬ OB A22 g18 := fun h => by have := (own_ob O_q21 h).1; have := hnb_g18; omega
 have Z_0_q21 : ∀ k, OB A22 k → (fun _ => False) k ∨ w.heap.size ≤ k := fun k h => .inr (by have := (own_ob O_q21 h).1; have := hnz_0; omega)
 have NN_q21_q14 : ∀ k, OB A22 k → ¬ OB A15 k := fun k h h2 => by have := (own_ob O_q21 h).1; have := hno_q14 k h2; omega
 have NN_q14_q21 : ∀ k, OB A15 k → ¬ OB A22 k := fun k h h2 => NN_q21_q14 k h2 h
 replace O_q21 := own_lower O_q21 hnz_0
 refine ⟨_, rfl, ?_⟩; clear hE a; intro a hE
 refine qn hE (rc (pl P80_9 5) (st_extract rfl rfl) (rc (pl P80_9 6) (st_extract rfl rfl) (rc (pl P80_9 7) (st_assign rfl) (rc (pl P80_9 8) (st_assign rfl) rn)))) ?_; clear hE a; intro a hE
 refine p_nil (x_norm (wp_ret ?_))
 refine ret_list (rs := [.tmp 4, .tmp 5]) (vs := [Value.slice A22 8 c23, Value.int .i64 0]) rfl hE (.tmp rfl (.tmp rfl .nil)) rfl ?_
 exact ⟨_, _, rfl, O_q21, K_0⟩
theorem R141_0_l : List.range (regOf Try.f141 0).size = [0, 1, 2] := by kernel_rfl
theorem R141_1_l : List.range (regOf Try.f141 1).size = [0, 1, 2, 3, 4, 5, 6, 7, 8, 9, 10, 11, 12, 13] := by kernel_rfl
theorem R141_4_l : List.range (regOf Try.f141 4).size = [0, 1] := by kernel_rfl
theorem R141_5_l : List.range (regOf Try.f141 5).size = [0, 1, 2, 3, 4] := by kernel_rfl
theorem R141_6_l : List.range (regOf Try.f141 6).size = [0, 1, 2, 3, 4] := by kernel_rfl
theorem body141 : Try.f141.body = some (.seq (.region 0 (regOf Try.f141 0) false) (.seq (.seq (.region 1 (regOf Try.f141 1) false) (.cond (Operand.tmp 23) (.seq (.region 2 (regOf Try.f141 2) false) (.ret)) (.skip))) (.seq (.region 3 (regOf Try.f141 3) true) (.seq (.seq (.region 4 (regOf Try.f141 4) false) (.cond (Operand.tmp 32) (.seq (.region 5 (regOf Try.f141 5) false) (.ret)) (.skip))) (.seq (.region 6 (regOf Try.f141 6) false) (.ret)))))) := by kernel_rfl
theorem P141_0 : (List.range (regOf Try.f141 0).size).map (pj (regOf Try.f141 0)) = [zz 3 (.box 32 (.tmp 0)) 0, zz 6 (.assign (.const (.bool false))) 4, zz 7 (.assign (.const (.int .i64 0))) 36] := by kernel_rfl
theorem P141_1 : (List.range (regOf Try.f141 1).size).map (pj (regOf Try.f141 1)) = [zz 10 (.load 32 (.tmp 3)) 32, zz 11 (.call { callee := .value (.func 122), args := #[.tmp 10], argTypes := #[32] }) 36, zz 12 (.binOp .neq 36 (.tmp 11) (.const (.int .i64 0)) 36) 4, zz 13 (.move (.tmp 12)) 4, some (some 14, .move (.tmp 1), 3, some (3, false)), some (some 15, .move (.tmp 2), 3, some (3, false)), some (some 16, .buildSlice 22 2 #[(0, .tmp 14), (1, .tmp 15)], 22, some (3, false)), some (some 17, .call { callee := .value (.func 47), args := #[.const (.int .i64 2), .tmp 16], argTypes := #[3, 22] }, 4, some (3, false)), some (some 18, .unOp .not 4 (.tmp 17), 4, some (3, false)), zz 19 (.pick (.tmp 13) (.const (.bool true)) (.tmp 18)) 4, zz 20 (.move (.tmp 19)) 4, some (some 21, .move (.tmp 2), 3, some (10, false)), some (some 22, .binOp .eql 3 (.tmp 21) (.const (.int .i64 0)) 3, 4, some (10, false)), zz 23 (.pick (.tmp 20) (.const (.bool true)) (.tmp 22)) 4] := by kernel_rfl
theorem g141_1_3 : dstOf (regOf Try.f141 1) 3 = some 13 := by kernel_rfl
theorem g141_1_10 : dstOf (regOf Try.f141 1) 10 = some 20 := by kernel_rfl
theorem ns141_3 : Region.noSelect (regOf Try.f141 3) = true := by kernel_rfl
theorem p141_3_0 : pj (regOf Try.f141 3) 0 = some (some 24, .fieldAddr 32 (.tmp 3) 4, 0, none) := by kernel_rfl
theorem p141_3_1 : pj (regOf Try.f141 3) 1 = some (some 25, .load 3 (.tmp 24), 3, none) := by kernel_rfl
theorem p141_3_2 : pj (regOf Try.f141 3) 2 = some (some 26, .move (.tmp 2), 3, none) := by kernel_rfl
theorem p141_3_3 : pj (regOf Try.f141 3) 3 = some (some 27, .binOp .quo 3 (.tmp 25) (.tmp 26) 3, 3, none) := by kernel_rfl
theorem p141_3_4 : pj (regOf Try.f141 3) 4 = some (some 28, .move (.tmp 1), 3, none) := by kernel_rfl
theorem p141_3_5 : pj (regOf Try.f141 3) 5 = some (some 29, .move (.tmp 2), 3, none) := by kernel_rfl
theorem p141_3_6 : pj (regOf Try.f141 3) 6 = some (some 30, .binOp .quo 3 (.tmp 28) (.tmp 29) 3, 3, none) := by kernel_rfl
theorem p141_3_7 : pj (regOf Try.f141 3) 7 = some (some 8, .assign (.tmp 27), 3, none) := by kernel_rfl
theorem p141_3_8 : pj (regOf Try.f141 3) 8 = some (some 9, .assign (.tmp 30), 3, none) := by kernel_rfl
theorem P141_4 : (List.range (regOf Try.f141 4).size).map (pj (regOf Try.f141 4)) = [zz 31 (.fieldAddr 32 (.tmp 3) 0) 0, zz 32 (.load 4 (.tmp 31)) 4] := by kernel_rfl
theorem P141_5 : (List.range (regOf Try.f141 5).size).map (pj (regOf Try.f141 5)) = [zz 33 (.move (.tmp 8)) 3, zz 34 (.move (.tmp 9)) 3, zz 35 (.binOp .lss 3 (.tmp 33) (.tmp 34) 3) 4, zz 6 (.assign (.tmp 35)) 4, zz 7 (.assign (.const (.int .i64 0))) 36] := by kernel_rfl
theorem P141_6 : (List.range (regOf Try.f141 6).size).map (pj (regOf Try.f141 6)) = [zz 36 (.move (.tmp 8)) 3, zz 37 (.move (.tmp 9)) 3, zz 38 (.binOp .gtr 3 (.tmp 36) (.tmp 37) 3) 4, zz 6 (.assign (.tmp 38)) 4, zz 7 (.assign (.const (.int .i64 0))) 36] := by kernel_rfl
set_option maxHeartbeats 4000000 in
theorem cons_any (dn wr fa : Bool) (ins rk : Int) (own least : Int) (hok : okO ins rk = true) (ho : 0 ≤ own ∧ own < 65536) (hl : 1 ≤ least ∧ least < 65536) (w : World) : Calls Try.prog 141 #[Value.agg #[Value.bool dn, Value.bool wr, Value.bool fa, Value.int .i64 ins, Value.int .i64 rk], .int .i64 own, .int .i64 least] w fun e w' => e = .returned (.tuple #[.bool (consB dn rk own least), .int .i64 0]) ∧ Kp w w' (fun _ => False) := by
 have K_0 := Kp.refl w (fun _ => False)
 have hob := okO_b hok
 refine enter (args := [Value.agg #[Value.bool dn, Value.bool wr, Value.bool fa, Value.int .i64 ins, Value.int .i64 rk], Value.int .i64 own, Value.int .i64 least]) (n := 39) Try.func141 body141 rfl rfl rfl ?_
 intro a hE
 refine c_reg R141_0_l ?_
 refine p_cons (s_box (pl P141_0 0) hE wn_none rfl rfl ?_)
 clear hE a; intro g1 w2 z3 B_g1 hk a hE
 replace B_g1 : w2.heap[g1]? = some (.cells #[Value.bool dn, Value.bool wr, Value.bool fa, Value.int .i64 ins, Value.int .i64 rk] 32 (0, 0)) := B_g1
 have z_0_g1 := Nat.le_trans K_0.kept.1 z3
 replace K_0 := K_0.then_ hk (fun _ h => h.elim)
 clear hk
 refine qn hE (rc (pl P141_0 1) (st_assign rfl) (rc (pl P141_0 2) (st_assign rfl) rn)) ?_; clear hE a; intro a hE
 refine p_nil (x_norm (wp_seq (c_reg R141_1_l ?_)))
 refine q0 (pl P141_1 0) hE (st_loadN (off := 0) (k := 5) (vs := [Value.bool dn, Value.bool wr, Value.bool fa, Value.int .i64 ins, Value.int .i64 rk]) tA32 tS32 rfl B_g1 rfl rfl) ?_; clear hE a; intro a hE
 refine p_cons (s_call (xs := [Operand.tmp 10]) (args := [Value.agg #[Value.bool dn, Value.bool wr, Value.bool fa, Value.int .i64 ins, Value.int .i64 rk]]) (pl P141_1 1) hE wn_none rfl rfl Try.func122 cl122 (ocheck dn wr fa ins rk _) ?_)
 rintro e w4 ⟨he, hk⟩
 obtain rfl := he.trans (congrArg (fun b => Ending.returned (Value.int .i64 (bif b then 0 else 1))) hok)
 replace B_g1 := kp_blk B_g1 hk (fun h => h)
 replace K_0 := K_0.then_ hk (fun _ h => h.elim)
 refine ⟨_, rfl, ?_⟩; clear hE a; intro a hE
 refine qn hE (rc (pl P141_1 2) (st_neq (b := false) rfl rfl (by decide)) (rc (pl P141_1 3) (st_move rfl) (rg (pl P141_1 4) (wn_some g141_1_3 rfl rfl) (st_move rfl) (rg (pl P141_1 5) (wn_some g141_1_3 rfl rfl) (st_move rfl) rn)))) ?_; clear hE a; intro a hE
 refine p_cons (s_row (xs := [(0, Operand.tmp 14), (1, Operand.tmp 15)]) (vs := [(0, Value.int .i64 own), (1, Value.int .i64 least)]) (cs := #[Value.int .i64 own, Value.int .i64 least]) (pl P141_1 6) hE (wn_some g141_1_3 rfl rfl) rfl Try.underlying22 rfl (by kernel_rfl) ?_)
 clear hE a; intro g5 w6 z7 B_g5 hk a hE
 have n_g1_g5 : g1 ≠ g5 := ne_new B_g1 z7
 have z_0_g5 := Nat.le_trans K_0.kept.1 z7
 replace B_g1 := kp_blk B_g1 hk (fun h => h)
 replace K_0 := K_0.then_ hk (fun _ h => h.elim)
 clear hk
 refine p_cons (s_call (xs := [Operand.const (Value.int IntKind.i64 2), Operand.tmp 16]) (args := [Value.int .i64 2, Value.slice (some ⟨g5, 0, none⟩) 2 2]) (pl P141_1 7) hE (wn_some g141_1_3 rfl rfl) rfl rfl Try.func47 cl47 (fits_any (some ⟨g5, 0, none⟩) 2 2 [own, least] (fitsF 2 [own, least]) rfl _ (C_blk (k := .i64) (l := [own, least]) (off := 0) B_g5 ⟨rfl, Nat.le_of_ble_eq_true rfl⟩ rfl) (Nat.le_of_ble_eq_true rfl)) ?_)
 rintro e w8 ⟨he, hk⟩
 obtain rfl := he.trans (congrArg (fun b => Ending.returned (Value.bool b)) (show fitsF 2 [own, least] = true by simp [fitsF, spanF]; omega))
 replace B_g1 := kp_blk B_g1 hk (fun h => h)
 replace B_g5 := kp_blk B_g5 hk (fun h => h)
 replace K_0 := K_0.then_ hk (fun _ h => h.elim)
 refine ⟨_, rfl, ?_⟩; clear hE a; intro a hE
 refine qn hE (rg (pl P141_1 8) (wn_some g141_1_3 rfl rfl) (st_not rfl rfl) (rc (pl P141_1 9) (st_pick rfl rfl) (rc (pl P141_1 10) (st_move rfl) (rg (pl P141_1 11) (wn_some g141_1_10 rfl rfl) (st_move rfl) (rg (pl P141_1 12) (wn_some g141_1_10 rfl rfl) (st_eql (b := false) rfl rfl (decide_eq_false (by omega))) (rc (pl P141_1 13) (st_pick rfl rfl) rn)))))) ?_; clear hE a; intro a hE
 refine p_nil (x_norm ?_)
 refine c_cond (t := false) hE rfl ?_
 refine wp_skip (x_norm ?_)
 refine c_drawS (S := fun W => W.heap[g1]? = some (.cells #[Value.bool dn, Value.bool wr, Value.bool fa, Value.int .i64 ins, Value.int .i64 rk] 32 (0, 0)) ∧ W.heap[g5]? = some (.cells #[Value.int .i64 own, Value.int .i64 least] 3 (0, 0)) ∧ True) rfl rfl (listed := #[ι, ι, ι, ι, ι, ι, ι, ι, ι]) rfl ?_
 intro w9 hh hk
 replace B_g1 := kp_blk B_g1 hk (fun h => h)
 replace B_g5 := kp_blk B_g5 hk (fun h => h)
 replace K_0 := K_0.then_ hk (fun _ h => h.elim)
 clear hh hk
 refine Rv.dm ns141_3 hE ⟨B_g1, B_g5, trivial⟩ (Rv.dc (v := Value.pointer (some ⟨g1, 4, none⟩)) p141_3_0 (fun W hS => (st_fieldAddr Try.underlying32 rfl tS3 rfl rfl)) rfl (Rv.dc (v := Value.int .i64 rk) p141_3_1 (fun W hS => (st_load1 tA3 rfl ((blk_cell hS.1 4).trans rfl))) rfl (Rv.dc p141_3_2 (fun W hS => (st_move rfl)) rfl (Rv.dc (v := Value.int .i64 (rk / least)) p141_3_3 (fun W hS => (st_quo (z := rk / least) rfl rfl (by omega) (quoI (by omega) (by omega) (by omega)))) rfl (Rv.dc p141_3_4 (fun W hS => (st_move rfl)) rfl (Rv.dc p141_3_5 (fun W hS => (st_move rfl)) rfl (Rv.dc (v := Value.int .i64 (own / least)) p141_3_6 (fun W hS => (st_quo (z := own / least) rfl rfl (by omega) (quoI (by omega) (by omega) (by omega)))) rfl (Rv.dc p141_3_7 (fun W hS => (st_assign rfl)) rfl (Rv.dc p141_3_8 (fun W hS => (st_assign rfl)) rfl Rv.dn))))))))) ?_; clear hE a; intro a hE
 refine d_end (by kernel_rfl) ?_
 refine x_norm (wp_seq (c_reg R141_4_l ?_))
 refine qn hE (rc (pl P141_4 0) (st_fieldAddr Try.underlying32 rfl tS4 rfl rfl) (rc (pl P141_4 1) (st_load1 tA4 rfl ((blk_cell B_g1 0).trans rfl)) rn)) ?_; clear hE a; intro a hE
 refine p_nil (x_norm ?_)
 rcases Bool.eq_false_or_eq_true dn with hb10 | hb10
 ·
  rw [hb10] at hE
  refine c_cond (t := true) hE rfl ?_
  refine c_reg R141_5_l ?_
  refine qn hE (rc (pl P141_5 0) (st_move rfl) (rc (pl P141_5 1) (st_move rfl) (rc (pl P141_5 2) (st_lss (b := (decide ((rk / least) < (own / least)))) rfl rfl rfl) (rc (pl P141_5 3) (st_assign rfl) (rc (pl P141_5 4) (st_assign rfl) rn))))) ?_; clear hE a; intro a hE
  refine p_nil (x_norm (wp_ret (x_ret ?_)))
  refine ret_list (rs := [.tmp 6, .tmp 7]) (vs := [Value.bool (decide ((rk / least) < (own / least))), Value.int .i64 0]) rfl hE (.tmp rfl (.tmp rfl .nil)) rfl ?_
  exact ⟨by unfold consB; rw [hb10]; rfl, K_0⟩
 ·
  rw [hb10] at hE
  refine c_cond (t := false) hE rfl ?_
  refine wp_skip (x_norm (c_reg R141_6_l ?_))
  refine qn hE (rc (pl P141_6 0) (st_move rfl) (rc (pl P141_6 1) (st_move rfl) (rc (pl P141_6 2) (st_gtr (b := (decide ((own / least) < (rk / least)))) rfl rfl rfl) (rc (pl P141_6 3) (st_assign rfl) (rc (pl P141_6 4) (st_assign rfl) rn))))) ?_; clear hE a; intro a hE
  refine p_nil (x_norm (wp_ret ?_))
  refine ret_list (rs := [.tmp 6, .tmp 7]) (vs := [Value.bool (decide ((own / least) < (rk / least))), Value.int .i64 0]) rfl hE (.tmp rfl (.tmp rfl .nil)) rfl ?_
  exact ⟨by unfold consB; rw [hb10]; rfl, K_0⟩
theorem R112_0_l : List.range (regOf Try.f112 0).size = [0, 1, 2, 3] := by kernel_rfl
theorem R112_1_l : List.range (regOf Try.f112 1).size = [0, 1, 2, 3, 4, 5, 6, 7, 8] := by kernel_rfl
theorem R112_2_l : List.range (regOf Try.f112 2).size = [0, 1, 2] := by kernel_rfl
theorem R112_4_l : List.range (regOf Try.f112 4).size = [0, 1, 2, 3, 4, 5, 6] := by kernel_rfl
theorem R112_5_l : List.range (regOf Try.f112 5).size = [0, 1, 2, 3] := by kernel_rfl
theorem R112_6_l : List.range (regOf Try.f112 6).size = [0, 1, 2, 3, 4, 5, 6, 7] := by kernel_rfl
theorem R112_7_l : List.range (regOf Try.f112 7).size = [0, 1, 2] := by kernel_rfl
theorem R112_8_l : List.range (regOf Try.f112 8).size = [0, 1, 2, 3, 4] := by kernel_rfl
theorem body112 : Try.f112.body = some (.seq (.region 0 (regOf Try.f112 0) false) (.seq (.region 1 (regOf Try.f112 1) false) (.seq (.block 0 (.seq (.region 2 (regOf Try.f112 2) false) (.cond (Operand.tmp 18) (.seq (.region 3 (regOf Try.f112 3) false) (.ret)) (.seq (.region 4 (regOf Try.f112 4) false) (.cond (Operand.tmp 23) (.seq (.region 5 (regOf Try.f112 5) false) (.ret)) (.skip)))))) (.seq (.region 6 (regOf Try.f112 6) false) (.seq (.region 7 (regOf Try.f112 7) false) (.seq (.region 8 (regOf Try.f112 8) false) (.ret))))))) := by kernel_rfl
theorem P112_0 : (List.range (regOf Try.f112 0).size).map (pj (regOf Try.f112 0)) = [zz 3 (.box 32 (.tmp 0)) 0, zz 6 (.alloc 32) 0, zz 7 (.assign (.const (.bool false))) 4, zz 8 (.assign (.const (.int .i64 0))) 36] := by kernel_rfl
theorem tZ32 : (Try.prog.info? 32).bind (·.zero) = some (Value.agg #[Value.bool false, Value.bool false, Value.bool false, Value.int .i64 0, Value.int .i64 0]) := by kernel_rfl
theorem P112_1 : (List.range (regOf Try.f112 1).size).map (pj (regOf Try.f112 1)) = [zz 12 (.load 32 (.tmp 3)) 32, zz 13 (.move (.tmp 1)) 3, zz 14 (.move (.tmp 2)) 3, zz 15 (.call { callee := .value (.func 141), args := #[.tmp 12, .tmp 13, .tmp 14], argTypes := #[32, 3, 3] }) 241, zz 11 (.move (.tmp 15)) 241, zz 16 (.extract (.tmp 11) 0) 4, zz 17 (.extract (.tmp 11) 1) 36, zz 9 (.assign (.tmp 16)) 4, zz 10 (.assign (.tmp 17)) 36] := by kernel_rfl
theorem cl141 : callable Try.f141 = true := by kernel_rfl
theorem P112_2 : (List.range (regOf Try.f112 2).size).map (pj (regOf Try.f112 2)) = [zz 19 (.move (.tmp 10)) 36, zz 20 (.binOp .neq 36 (.tmp 19) (.const (.int .i64 0)) 36) 4, zz 18 (.assign (.tmp 20)) 4] := by kernel_rfl
theorem P112_4 : (List.range (regOf Try.f112 4).size).map (pj (regOf Try.f112 4)) = [zz 24 (.move (.tmp 9)) 4, zz 25 (.unOp .not 4 (.tmp 24)) 4, zz 26 (.move (.tmp 25)) 4, some (some 27, .fieldAddr 32 (.tmp 3) 1, 0, some (2, true)), some (some 28, .load 4 (.tmp 27), 4, some (2, true)), zz 29 (.pick (.tmp 26) (.tmp 28) (.const (.bool false))) 4, zz 23 (.assign (.tmp 29)) 4] := by kernel_rfl
theorem g112_4_2 : dstOf (regOf Try.f112 4) 2 = some 26 := by kernel_rfl
theorem P112_6 : (List.range (regOf Try.f112 6).size).map (pj (regOf Try.f112 6)) = [zz 31 (.fieldAddr 32 (.tmp 3) 1) 0, zz 32 (.load 4 (.tmp 31)) 4, zz 33 (.move (.tmp 32)) 4, some (some 34, .move (.tmp 9), 4, some (2, false)), some (some 35, .unOp .not 4 (.tmp 34), 4, some (2, false)), zz 36 (.pick (.tmp 33) (.const (.bool true)) (.tmp 35)) 4, zz 37 (.fieldAddr 32 (.tmp 3) 1) 0, some (none, .store 4 (.tmp 37) (.tmp 36), 0, none)] := by kernel_rfl
theorem g112_6_2 : dstOf (regOf Try.f112 6) 2 = some 33 := by kernel_rfl
theorem P112_7 : (List.range (regOf Try.f112 7).size).map (pj (regOf Try.f112 7)) = [zz 38 (.move (.tmp 1)) 3, zz 39 (.fieldAddr 32 (.tmp 3) 4) 0, some (none, .store 3 (.tmp 39) (.tmp 38), 0, none)] := by kernel_rfl
theorem P112_8 : (List.range (regOf Try.f112 8).size).map (pj (regOf Try.f112 8)) = [zz 40 (.load 32 (.tmp 3)) 32, zz 41 (.move (.tmp 9)) 4, some (none, .store 32 (.tmp 6) (.tmp 40), 0, none), zz 7 (.assign (.tmp 41)) 4, zz 8 (.assign (.const (.int .i64 0))) 36] := by kernel_rfl
theorem P112_5 : (List.range (regOf Try.f112 5).size).map (pj (regOf Try.f112 5)) = [zz 30 (.build 32 #[]) 32, some (none, .store 32 (.tmp 6) (.tmp 30), 0, none), zz 7 (.assign (.const (.bool false))) 4, zz 8 (.assign (.const (.int .i64 11))) 36] := by kernel_rfl
set_option maxHeartbeats 4000000 in
theorem hop_any (dn wr fa : Bool) (ins rk : Int) (own least : Int) (hok : okO ins rk = true) (ho : 0 ≤ own ∧ own < 65536) (hl : 1 ≤ least ∧ least < 65536) (w : World) : Calls Try.prog 112 #[Value.agg #[Value.bool dn, Value.bool wr, Value.bool fa, Value.int .i64 ins, Value.int .i64 rk], .int .i64 own, .int .i64 least] w fun e w' => ((!consB dn rk own least && wr) = true ∧ e = .returned (.tuple #[Value.agg #[Value.bool false, Value.bool false, Value.bool false, Value.int .i64 0, Value.int .i64 0], .bool false, .int .i64 11]) ∧ Kp w w' (fun _ => False)) ∨ ((!consB dn rk own least && wr) = false ∧ e = .returned (.tuple #[Value.agg #[Value.bool dn, Value.bool (wr || !consB dn rk own least), Value.bool fa, Value.int .i64 ins, Value.int .i64 own], .bool (consB dn rk own least), .int .i64 0]) ∧ Kp w w' (fun _ => False)) := by
 have K_0 := Kp.refl w (fun _ => False)
 refine enter (args := [Value.agg #[Value.bool dn, Value.bool wr, Value.bool fa, Value.int .i64 ins, Value.int .i64 rk], Value.int .i64 own, Value.int .i64 least]) (n := 42) Try.func112 body112 rfl rfl rfl ?_
 intro a hE
 refine c_reg R112_0_l ?_
 refine p_cons (s_box (pl P112_0 0) hE wn_none rfl rfl ?_)
 clear hE a; intro g1 w2 z3 B_g1 hk a hE
 replace B_g1 : w2.heap[g1]? = some (.cells #[Value.bool dn, Value.bool wr, Value.bool fa, Value.int .i64 ins, Value.int .i64 rk] 32 (0, 0)) := B_g1
 have z_0_g1 := Nat.le_trans K_0.kept.1 z3
 replace K_0 := K_0.then_ hk (fun _ h => h.elim)
 clear hk
 refine p_cons (s_alloc (pl P112_0 1) hE wn_none rfl tZ32 ?_)
 clear hE a; intro g4 w5 z6 B_g4 hk a hE
 replace B_g4 : w5.heap[g4]? = some (.cells #[Value.bool false, Value.bool false, Value.bool false, Value.int .i64 0, Value.int .i64 0] 32 (0, 0)) := B_g4
 have n_g1_g4 : g1 ≠ g4 := ne_new B_g1 z6
 have z_0_g4 := Nat.le_trans K_0.kept.1 z6
 replace B_g1 := kp_blk B_g1 hk (fun h => h)
 replace K_0 := K_0.then_ hk (fun _ h => h.elim)
 clear hk
 refine qn hE (rc (pl P112_0 2) (st_assign rfl) (rc (pl P112_0 3) (st_assign rfl) rn)) ?_; clear hE a; intro a hE
 refine p_nil (x_norm (c_reg R112_1_l ?_))
 refine qn hE (rc (pl P112_1 0) (st_loadN (off := 0) (k := 5) (vs := [Value.bool dn, Value.bool wr, Value.bool fa, Value.int .i64 ins, Value.int .i64 rk]) tA32 tS32 rfl B_g1 rfl rfl) (rc (pl P112_1 1) (st_move rfl) (rc (pl P112_1 2) (st_move rfl) rn))) ?_; clear hE a; intro a hE
 refine p_cons (s_call (xs := [Operand.tmp 12, Operand.tmp 13, Operand.tmp 14]) (args := [Value.agg #[Value.bool dn, Value.bool wr, Value.bool fa, Value.int .i64 ins, Value.int .i64 rk], Value.int .i64 own, Value.int .i64 least]) (pl P112_1 3) hE wn_none rfl rfl Try.func141 cl141 (cons_any dn wr fa ins rk own least hok ho hl _) ?_)
 rintro e w7 ⟨rfl, hk⟩
 replace B_g1 := kp_blk B_g1 hk (fun h => h)
 replace B_g4 := kp_blk B_g4 hk (fun h => h)
 replace K_0 := K_0.then_ hk (fun _ h => h.elim)
 refine ⟨_, rfl, ?_⟩; clear hE a; intro a hE
 refine qn hE (rc (pl P112_1 4) (st_move rfl) (rc (pl P112_1 5) (st_extract rfl rfl) (rc (pl P112_1 6) (st_extract rfl rfl) (rc (pl P112_1 7) (st_assign rfl) (rc (pl P112_1 8) (st_assign rfl) rn))))) ?_; clear hE a; intro a hE
 refine p_nil (x_norm (wp_seq (wp_block (c_reg R112_2_l ?_))))
 refine qn hE (rc (pl P112_2 0) (st_move rfl) (rc (pl P112_2 1) (st_neq (b := false) rfl rfl (by decide)) (rc (pl P112_2 2) (st_assign rfl) rn))) ?_; clear hE a; intro a hE
 refine p_nil (x_norm ?_)
 refine c_cond (t := false) hE rfl ?_
 refine c_reg R112_4_l ?_
 refine qn hE (rc (pl P112_4 0) (st_move rfl) (rc (pl P112_4 1) (st_not rfl rfl) (rc (pl P112_4 2) (st_move rfl) rn))) ?_; clear hE a; intro a hE
 rcases Bool.eq_false_or_eq_true (consB dn rk own least) with hb8 | hb8
 ·
  rw [hb8] at hE
  refine qn hE (Ds.rk (pl P112_4 3) (wn_some g112_4_2 rfl rfl) (Ds.rk (pl P112_4 4) (wn_some g112_4_2 rfl rfl) (rc (pl P112_4 5) (st_pick rfl rfl) (rc (pl P112_4 6) (st_assign rfl) rn)))) ?_; clear hE a; intro a hE
  refine p_nil (x_norm ?_)
  refine c_cond (t := false) hE rfl ?_
  refine wp_skip (x_normB (x_norm (c_reg R112_6_l ?_)))
  refine qn hE (rc (pl P112_6 0) (st_fieldAddr Try.underlying32 rfl tS4 rfl rfl) (rc (pl P112_6 1) (st_load1 tA4 rfl ((blk_cell B_g1 1).trans rfl)) (rc (pl P112_6 2) (st_move rfl) rn))) ?_; clear hE a; intro a hE
  rcases Bool.eq_false_or_eq_true wr with hb9 | hb9
  ·
   rw [hb9] at hE
   refine qn hE (Ds.rk (pl P112_6 3) (wn_some g112_6_2 rfl rfl) (Ds.rk (pl P112_6 4) (wn_some g112_6_2 rfl rfl) (rc (pl P112_6 5) (st_pick rfl rfl) (rc (pl P112_6 6) (st_fieldAddr Try.underlying32 rfl tS4 rfl rfl) rn)))) ?_; clear hE a; intro a hE
   refine p_cons (s_store (off := 1) (k := 1) (cs' := #[Value.bool dn, Value.bool true, Value.bool fa, Value.int .i64 ins, Value.int .i64 rk]) (pl P112_6 7) hE wn_none tS4 rfl rfl rfl rfl B_g1 (Nat.le_of_ble_eq_true rfl) rfl ?_)
   intro w10 B_g1' hk
   replace B_g4 := kp_blk B_g4 hk (Ne.symm n_g1_g4)
   replace K_0 := K_0.then_ hk (fun k h => by rw [show k = g1 from h]; exact Or.inr z_0_g1)
   replace B_g1 := B_g1'
   clear hk
   refine p_nil (x_norm (c_reg R112_7_l ?_))
   refine qn hE (rc (pl P112_7 0) (st_move rfl) (rc (pl P112_7 1) (st_fieldAddr Try.underlying32 rfl tS3 rfl rfl) rn)) ?_; clear hE a; intro a hE
   refine p_cons (s_store (off := 4) (k := 1) (cs' := #[Value.bool dn, Value.bool true, Value.bool fa, Value.int .i64 ins, Value.int .i64 own]) (pl P112_7 2) hE wn_none tS3 rfl rfl rfl rfl B_g1 (Nat.le_of_ble_eq_true rfl) rfl ?_)
   intro w11 B_g1' hk
   replace B_g4 := kp_blk B_g4 hk (Ne.symm n_g1_g4)
   replace K_0 := K_0.then_ hk (fun k h => by rw [show k = g1 from h]; exact Or.inr z_0_g1)
   replace B_g1 := B_g1'
   clear hk
   refine p_nil (x_norm (c_reg R112_8_l ?_))
   refine qn hE (rc (pl P112_8 0) (st_loadN (off := 0) (k := 5) (vs := [Value.bool dn, Value.bool true, Value.bool fa, Value.int .i64 ins, Value.int .i64 own]) tA32 tS32 rfl B_g1 rfl rfl) (rc (pl P112_8 1) (st_move rfl) rn)) ?_; clear hE a; intro a hE
   refine p_cons (s_store (off := 0) (k := 5) (cs' := #[Value.bool dn, Value.bool true, Value.bool fa, Value.int .i64 ins, Value.int .i64 own]) (pl P112_8 2) hE wn_none tS32 rfl rfl rfl rfl B_g4 (Nat.le_of_ble_eq_true rfl) rfl ?_)
   intro w12 B_g4' hk
   replace B_g1 := kp_blk B_g1 hk n_g1_g4
   replace K_0 := K_0.then_ hk (fun k h => by rw [show k = g4 from h]; exact Or.inr z_0_g4)
   replace B_g4 := B_g4'
   clear hk
   refine qn hE (rc (pl P112_8 3) (st_assign rfl) (rc (pl P112_8 4) (st_assign rfl) rn)) ?_; clear hE a; intro a hE
   refine p_nil (x_norm (wp_ret ?_))
   refine ret_list (rs := [.cell 6 32, .tmp 7, .tmp 8]) (vs := [Value.agg #[Value.bool dn, Value.bool true, Value.bool fa, Value.int .i64 ins, Value.int .i64 own], Value.bool true, Value.int .i64 0]) rfl hE (.cellN (us := [Value.bool dn, Value.bool true, Value.bool fa, Value.int .i64 ins, Value.int .i64 own]) tA32 tS32 rfl B_g4 rfl (.tmp rfl (.tmp rfl .nil))) rfl ?_
   exact .inr ⟨by simp [hb8, hb9], by simp [hb8, hb9], K_0⟩
  ·
   rw [hb9] at hE
   refine qn hE (rg (pl P112_6 3) (wn_some g112_6_2 rfl rfl) (st_move rfl) (rg (pl P112_6 4) (wn_some g112_6_2 rfl rfl) (st_not rfl rfl) (rc (pl P112_6 5) (st_pick rfl rfl) (rc (pl P112_6 6) (st_fieldAddr Try.underlying32 rfl tS4 rfl rfl) rn)))) ?_; clear hE a; intro a hE
   refine p_cons (s_store (off := 1) (k := 1) (cs' := #[Value.bool dn, Value.bool false, Value.bool fa, Value.int .i64 ins, Value.int .i64 rk]) (pl P112_6 7) hE wn_none tS4 rfl rfl rfl rfl B_g1 (Nat.le_of_ble_eq_true rfl) rfl ?_)
   intro w13 B_g1' hk
   replace B_g4 := kp_blk B_g4 hk (Ne.symm n_g1_g4)
   replace K_0 := K_0.then_ hk (fun k h => by rw [show k = g1 from h]; exact Or.inr z_0_g1)
   replace B_g1 := B_g1'
   clear hk
   refine p_nil (x_norm (c_reg R112_7_l ?_))
   refine qn hE (rc (pl P112_7 0) (st_move rfl) (rc (pl P112_7 1) (st_fieldAddr Try.underlying32 rfl tS3 rfl rfl) rn)) ?_; clear hE a; intro a hE
   refine p_cons (s_store (off := 4) (k := 1) (cs' := #[Value.bool dn, Value.bool false, Value.bool fa, Value.int .i64 ins, Value.int .i64 own]) (pl P112_7 2) hE wn_none tS3 rfl rfl rfl rfl B_g1 (Nat.le_of_ble_eq_true rfl) rfl ?_)
   intro w14 B_g1' hk
   replace B_g4 := kp_blk B_g4 hk (Ne.symm n_g1_g4)
   replace K_0 := K_0.then_ hk (fun k h => by rw [show k = g1 from h]; exact Or.inr z_0_g1)
   replace B_g1 := B_g1'
   clear hk
   refine p_nil (x_norm (c_reg R112_8_l ?_))
   refine qn hE (rc (pl P112_8 0) (st_loadN (off := 0) (k := 5) (vs := [Value.bool dn, Value.bool false, Value.bool fa, Value.int .i64 ins, Value.int .i64 own]) tA32 tS32 rfl B_g1 rfl rfl) (rc (pl P112_8 1) (st_move rfl) rn)) ?_; clear hE a; intro a hE
   refine p_cons (s_store (off := 0) (k := 5) (cs' := #[Value.bool dn, Value.bool false, Value.bool fa, Value.int .i64 ins, Value.int .i64 own]) (pl P112_8 2) hE wn_none tS32 rfl rfl rfl rfl B_g4 (Nat.le_of_ble_eq_true rfl) rfl ?_)
   intro w15 B_g4' hk
   replace B_g1 := kp_blk B_g1 hk n_g1_g4
   replace K_0 := K_0.then_ hk (fun k h => by rw [show k = g4 from h]; exact Or.inr z_0_g4)
   replace B_g4 := B_g4'
   clear hk
   refine qn hE (rc (pl P112_8 3) (st_assign rfl) (rc (pl P112_8 4) (st_assign rfl) rn)) ?_; clear hE a; intro a hE
   refine p_nil (x_norm (wp_ret ?_))
   refine ret_list (rs := [.cell 6 32, .tmp 7, .tmp 8]) (vs := [Value.agg #[Value.bool dn, Value.bool false, Value.bool fa, Value.int .i64 ins, Value.int .i64 own], Value.bool true, Value.int .i64 0]) rfl hE (.cellN (us := [Value.bool dn, Value.bool false, Value.bool fa, Value.int .i64 ins, Value.int .i64 own]) tA32 tS32 rfl B_g4 rfl (.tmp rfl (.tmp rfl .nil))) rfl ?_
   exact .inr ⟨by simp [hb8, hb9], by simp [hb8, hb9], K_0⟩
 ·
  rw [hb8] at hE
  refine qn hE (rg (pl P112_4 3) (wn_some g112_4_2 rfl rfl) (st_fieldAddr Try.underlying32 rfl tS4 rfl rfl) (rg (pl P112_4 4) (wn_some g112_4_2 rfl rfl) (st_load1 tA4 rfl ((blk_cell B_g1 1).trans rfl)) (rc (pl P112_4 5) (st_pick rfl rfl) (rc (pl P112_4 6) (st_assign rfl) rn)))) ?_; clear hE a; intro a hE
  refine p_nil (x_norm ?_)
  rcases Bool.eq_false_or_eq_true wr with hb16 | hb16
  ·
   rw [hb16] at hE
   refine c_cond (t := true) hE rfl ?_
   refine c_reg R112_5_l ?_
   refine q0 (pl P112_5 0) hE (st_build (xs := []) (vs := []) (cs := #[Value.bool false, Value.bool false, Value.bool false, Value.int .i64 0, Value.int .i64 0]) rfl (by kernel_rfl)) ?_; clear hE a; intro a hE
   refine p_cons (s_store (off := 0) (k := 5) (cs' := #[Value.bool false, Value.bool false, Value.bool false, Value.int .i64 0, Value.int .i64 0]) (pl P112_5 1) hE wn_none tS32 rfl rfl rfl rfl B_g4 (Nat.le_of_ble_eq_true rfl) rfl ?_)
   intro w17 B_g4' hk
   replace B_g1 := kp_blk B_g1 hk n_g1_g4
   replace K_0 := K_0.then_ hk (fun k h => by rw [show k = g4 from h]; exact Or.inr z_0_g4)
   replace B_g4 := B_g4'
   clear hk
   refine qn hE (rc (pl P112_5 2) (st_assign rfl) (rc (pl P112_5 3) (st_assign rfl) rn)) ?_; clear hE a; intro a hE
   refine p_nil (x_norm (wp_ret (x_retB (x_ret ?_))))
   refine ret_list (rs := [.cell 6 32, .tmp 7, .tmp 8]) (vs := [Value.agg #[Value.bool false, Value.bool false, Value.bool false, Value.int .i64 0, Value.int .i64 0], Value.bool false, Value.int .i64 11]) rfl hE (.cellN (us := [Value.bool false, Value.bool false, Value.bool false, Value.int .i64 0, Value.int .i64 0]) tA32 tS32 rfl B_g4 rfl (.tmp rfl (.tmp rfl .nil))) rfl ?_
   exact .inl ⟨by rw [hb8, hb16]; rfl, rfl, K_0⟩
  ·
   rw [hb16] at hE
   refine c_cond (t := false) hE rfl ?_
   refine wp_skip (x_normB (x_norm (c_reg R112_6_l ?_)))
   refine qn hE (rc (pl P112_6 0) (st_fieldAddr Try.underlying32 rfl tS4 rfl rfl) (rc (pl P112_6 1) (st_load1 tA4 rfl ((blk_cell B_g1 1).trans rfl)) (rc (pl P112_6 2) (st_move rfl) rn))) ?_; clear hE a; intro a hE
   rw [hb16] at hE
   refine qn hE (rg (pl P112_6 3) (wn_some g112_6_2 rfl rfl) (st_move rfl) (rg (pl P112_6 4) (wn_some g112_6_2 rfl rfl) (st_not rfl rfl) (rc (pl P112_6 5) (st_pick rfl rfl) (rc (pl P112_6 6) (st_fieldAddr Try.underlying32 rfl tS4 rfl rfl) rn)))) ?_; clear hE a; intro a hE
   refine p_cons (s_store (off := 1) (k := 1) (cs' := #[Value.bool dn, Value.bool true, Value.bool fa, Value.int .i64 ins, Value.int .i64 rk]) (pl P112_6 7) hE wn_none tS4 rfl rfl rfl rfl B_g1 (Nat.le_of_ble_eq_true rfl) rfl ?_)
   intro w18 B_g1' hk
   replace B_g4 := kp_blk B_g4 hk (Ne.symm n_g1_g4)
   replace K_0 := K_0.then_ hk (fun k h => by rw [show k = g1 from h]; exact Or.inr z_0_g1)
   replace B_g1 := B_g1'
   clear hk
   refine p_nil (x_norm (c_reg R112_7_l ?_))
   refine qn hE (rc (pl P112_7 0) (st_move rfl) (rc (pl P112_7 1) (st_fieldAddr Try.underlying32 rfl tS3 rfl rfl) rn)) ?_; clear hE a; intro a hE
   refine p_cons (s_store (off := 4) (k := 1) (cs' := #[Value.bool dn, Value.bool true, Value.bool fa, Value.int .i64 ins, Value.int .i64 own]) (pl P112_7 2) hE wn_none tS3 rfl rfl rfl rfl B_g1 (Nat.le_of_ble_eq_true rfl) rfl ?_)
   intro w19 B_g1' hk
   replace B_g4 := kp_blk B_g4 hk (Ne.symm n_g1_g4)
   replace K_0 := K_0.then_ hk (fun k h => by rw [show k = g1 from h]; exact Or.inr z_0_g1)
   replace B_g1 := B_g1'
   clear hk
   refine p_nil (x_norm (c_reg R112_8_l ?_))
   refine qn hE (rc (pl P112_8 0) (st_loadN (off := 0) (k := 5) (vs := [Value.bool dn, Value.bool true, Value.bool fa, Value.int .i64 ins, Value.int .i64 own]) tA32 tS32 rfl B_g1 rfl rfl) (rc (pl P112_8 1) (st_move rfl) rn)) ?_; clear hE a; intro a hE
   refine p_cons (s_store (off := 0) (k := 5) (cs' := #[Value.bool dn, Value.bool true, Value.bool fa, Value.int .i64 ins, Value.int .i64 own]) (pl P112_8 2) hE wn_none tS32 rfl rfl rfl rfl B_g4 (Nat.le_of_ble_eq_true rfl) rfl ?_)
   intro w20 B_g4' hk
   replace B_g1 := kp_blk B_g1 hk n_g1_g4
   replace K_0 := K_0.then_ hk (fun k h => by rw [show k = g4 from h]; exact Or.inr z_0_g4)
   replace B_g4 := B_g4'
   clear hk
   refine qn hE (rc (pl P112_8 3) (st_assign rfl) (rc (pl P112_8 4) (st_assign rfl) rn)) ?_; clear hE a; intro a hE
   refine p_nil (x_norm (wp_ret ?_))
   refine ret_list (rs := [.cell 6 32, .tmp 7, .tmp 8]) (vs := [Value.agg #[Value.bool dn, Value.bool true, Value.bool fa, Value.int .i64 ins, Value.int .i64 own], Value.bool false, Value.int .i64 0]) rfl hE (.cellN (us := [Value.bool dn, Value.bool true, Value.bool fa, Value.int .i64 ins, Value.int .i64 own]) tA32 tS32 rfl B_g4 rfl (.tmp rfl (.tmp rfl .nil))) rfl ?_
   exact .inr ⟨by simp [hb8, hb16], by simp [hb8, hb16], K_0⟩
theorem R114_0_l : List.range (regOf Try.f114 0).size = [0, 1, 2] := by kernel_rfl
theorem R114_1_l : List.range (regOf Try.f114 1).size = [0, 1, 2, 3, 4, 5, 6, 7, 8] := by kernel_rfl
theorem R114_3_l : List.range (regOf Try.f114 3).size = [0, 1, 2, 3, 4, 5] := by kernel_rfl
theorem R114_4_l : List.range (regOf Try.f114 4).size = [0, 1, 2] := by kernel_rfl
theorem body114 : Try.f114.body = some (.seq (.region 0 (regOf Try.f114 0) false) (.seq (.seq (.region 1 (regOf Try.f114 1) false) (.cond (Operand.tmp 16) (.seq (.region 2 (regOf Try.f114 2) false) (.ret)) (.skip))) (.seq (.region 3 (regOf Try.f114 3) false) (.seq (.region 4 (regOf Try.f114 4) false) (.ret))))) := by kernel_rfl
theorem P114_0 : (List.range (regOf Try.f114 0).size).map (pj (regOf Try.f114 0)) = [zz 3 (.box 32 (.tmp 0)) 0, zz 6 (.alloc 32) 0, zz 7 (.assign (.const (.int .i64 0))) 36] := by kernel_rfl
theorem P114_1 : (List.range (regOf Try.f114 1).size).map (pj (regOf Try.f114 1)) = [zz 8 (.load 32 (.tmp 3)) 32, zz 9 (.call { callee := .value (.func 122), args := #[.tmp 8], argTypes := #[32] }) 36, zz 10 (.binOp .neq 36 (.tmp 9) (.const (.int .i64 0)) 36) 4, zz 11 (.move (.tmp 10)) 4, some (some 12, .move (.tmp 1), 3, some (3, false)), some (some 13, .buildSlice 22 1 #[(0, .tmp 12)], 22, some (3, false)), some (some 14, .call { callee := .value (.func 47), args := #[.const (.int .i64 2), .tmp 13], argTypes := #[3, 22] }, 4, some (3, false)), some (some 15, .unOp .not 4 (.tmp 14), 4, some (3, false)), zz 16 (.pick (.tmp 11) (.const (.bool true)) (.tmp 15)) 4] := by kernel_rfl
theorem g114_1_3 : dstOf (regOf Try.f114 1) 3 = some 11 := by kernel_rfl
theorem P114_3 : (List.range (regOf Try.f114 3).size).map (pj (regOf Try.f114 3)) = [zz 18 (.move (.tmp 1)) 3, zz 19 (.move (.tmp 2)) 4, zz 20 (.fieldAddr 32 (.tmp 3) 4) 0, some (none, .store 3 (.tmp 20) (.tmp 18), 0, none), zz 21 (.fieldAddr 32 (.tmp 3) 0) 0, some (none, .store 4 (.tmp 21) (.tmp 19), 0, none)] := by kernel_rfl
theorem P114_4 : (List.range (regOf Try.f114 4).size).map (pj (regOf Try.f114 4)) = [zz 22 (.load 32 (.tmp 3)) 32, some (none, .store 32 (.tmp 6) (.tmp 22), 0, none), zz 7 (.assign (.const (.int .i64 0))) 36] := by kernel_rfl
set_option maxHeartbeats 4000000 in
theorem mark_any (dn wr fa : Bool) (ins rk : Int) (own : Int) (dn' : Bool) (hok : okO ins rk = true) (ho : 0 ≤ own ∧ own < 65536) (w : World) : Calls Try.prog 114 #[Value.agg #[Value.bool dn, Value.bool wr, Value.bool fa, Value.int .i64 ins, Value.int .i64 rk], .int .i64 own, .bool dn'] w fun e w' => e = .returned (.tuple #[Value.agg #[Value.bool dn', Value.bool wr, Value.bool fa, Value.int .i64 ins, Value.int .i64 own], .int .i64 0]) ∧ Kp w w' (fun _ => False) := by
 have K_0 := Kp.refl w (fun _ => False)
 refine enter (args := [Value.agg #[Value.bool dn, Value.bool wr, Value.bool fa, Value.int .i64 ins, Value.int .i64 rk], Value.int .i64 own, Value.bool dn']) (n := 23) Try.func114 body114 rfl rfl rfl ?_
 intro a hE
 refine c_reg R114_0_l ?_
 refine p_cons (s_box (pl P114_0 0) hE wn_none rfl rfl ?_)
 clear hE a; intro g1 w2 z3 B_g1 hk a hE
 replace B_g1 : w2.heap[g1]? = some (.cells #[Value.bool dn, Value.bool wr, Value.bool fa, Value.int .i64 ins, Value.int .i64 rk] 32 (0, 0)) := B_g1
 have z_0_g1 := Nat.le_trans K_0.kept.1 z3
 replace K_0 := K_0.then_ hk (fun _ h => h.elim)
 clear hk
 refine p_cons (s_alloc (pl P114_0 1) hE wn_none rfl tZ32 ?_)
 clear hE a; intro g4 w5 z6 B_g4 hk a hE
 replace B_g4 : w5.heap[g4]? = some (.cells #[Value.bool false, Value.bool false, Value.bool false, Value.int .i64 0, Value.int .i64 0] 32 (0, 0)) := B_g4
 have n_g1_g4 : g1 ≠ g4 := ne_new B_g1 z6
 have z_0_g4 := Nat.le_trans K_0.kept.1 z6
 replace B_g1 := kp_blk B_g1 hk (fun h => h)
 replace K_0 := K_0.then_ hk (fun _ h => h.elim)
 clear hk
 refine q0 (pl P114_0 2) hE (st_assign rfl) ?_; clear hE a; intro a hE
 refine p_nil (x_norm (wp_seq (c_reg R114_1_l ?_)))
 refine q0 (pl P114_1 0) hE (st_loadN (off := 0) (k := 5) (vs := [Value.bool dn, Value.bool wr, Value.bool fa, Value.int .i64 ins, Value.int .i64 rk]) tA32 tS32 rfl B_g1 rfl rfl) ?_; clear hE a; intro a hE
 refine p_cons (s_call (xs := [Operand.tmp 8]) (args := [Value.agg #[Value.bool dn, Value.bool wr, Value.bool fa, Value.int .i64 ins, Value.int .i64 rk]]) (pl P114_1 1) hE wn_none rfl rfl Try.func122 cl122 (ocheck dn wr fa ins rk _) ?_)
 rintro e w7 ⟨he, hk⟩
 obtain rfl := he.trans (congrArg (fun b => Ending.returned (Value.int .i64 (bif b then 0 else 1))) hok)
 replace B_g1 := kp_blk B_g1 hk (fun h => h)
 replace B_g4 := kp_blk B_g4 hk (fun h => h)
 replace K_0 := K_0.then_ hk (fun _ h => h.elim)
 refine ⟨_, rfl, ?_⟩; clear hE a; intro a hE
 refine qn hE (rc (pl P114_1 2) (st_neq (b := false) rfl rfl (by decide)) (rc (pl P114_1 3) (st_move rfl) (rg (pl P114_1 4) (wn_some g114_1_3 rfl rfl) (st_move rfl) rn))) ?_; clear hE a; intro a hE
 refine p_cons (s_row (xs := [(0, Operand.tmp 12)]) (vs := [(0, Value.int .i64 own)]) (cs := #[Value.int .i64 own]) (pl P114_1 5) hE (wn_some g114_1_3 rfl rfl) rfl Try.underlying22 rfl (by kernel_rfl) ?_)
 clear hE a; intro g8 w9 z10 B_g8 hk a hE
 have n_g1_g8 : g1 ≠ g8 := ne_new B_g1 z10
 have n_g4_g8 : g4 ≠ g8 := ne_new B_g4 z10
 have z_0_g8 := Nat.le_trans K_0.kept.1 z10
 replace B_g1 := kp_blk B_g1 hk (fun h => h)
 replace B_g4 := kp_blk B_g4 hk (fun h => h)
 replace K_0 := K_0.then_ hk (fun _ h => h.elim)
 clear hk
 refine p_cons (s_call (xs := [Operand.const (Value.int IntKind.i64 2), Operand.tmp 13]) (args := [Value.int .i64 2, Value.slice (some ⟨g8, 0, none⟩) 1 1]) (pl P114_1 6) hE (wn_some g114_1_3 rfl rfl) rfl rfl Try.func47 cl47 (fits_any (some ⟨g8, 0, none⟩) 1 2 [own] (fitsF 2 [own]) rfl _ (C_blk (k := .i64) (l := [own]) (off := 0) B_g8 ⟨rfl, Nat.le_of_ble_eq_true rfl⟩ rfl) (Nat.le_of_ble_eq_true rfl)) ?_)
 rintro e w11 ⟨he, hk⟩
 obtain rfl := he.trans (congrArg (fun b => Ending.returned (Value.bool b)) (show fitsF 2 [own] = true by simp [fitsF, spanF]; omega))
 replace B_g1 := kp_blk B_g1 hk (fun h => h)
 replace B_g4 := kp_blk B_g4 hk (fun h => h)
 replace B_g8 := kp_blk B_g8 hk (fun h => h)
 replace K_0 := K_0.then_ hk (fun _ h => h.elim)
 refine ⟨_, rfl, ?_⟩; clear hE a; intro a hE
 refine qn hE (rg (pl P114_1 7) (wn_some g114_1_3 rfl rfl) (st_not rfl rfl) (rc (pl P114_1 8) (st_pick rfl rfl) rn)) ?_; clear hE a; intro a hE
 refine p_nil (x_norm ?_)
 refine c_cond (t := false) hE rfl ?_
 refine wp_skip (x_norm (c_reg R114_3_l ?_))
 refine qn hE (rc (pl P114_3 0) (st_move rfl) (rc (pl P114_3 1) (st_move rfl) (rc (pl P114_3 2) (st_fieldAddr Try.underlying32 rfl tS3 rfl rfl) rn))) ?_; clear hE a; intro a hE
 refine p_cons (s_store (off := 4) (k := 1) (cs' := #[Value.bool dn, Value.bool wr, Value.bool fa, Value.int .i64 ins, Value.int .i64 own]) (pl P114_3 3) hE wn_none tS3 rfl rfl rfl rfl B_g1 (Nat.le_of_ble_eq_true rfl) rfl ?_)
 intro w12 B_g1' hk
 replace B_g4 := kp_blk B_g4 hk (Ne.symm n_g1_g4)
 replace B_g8 := kp_blk B_g8 hk (Ne.symm n_g1_g8)
 replace K_0 := K_0.then_ hk (fun k h => by rw [show k = g1 from h]; exact Or.inr z_0_g1)
 replace B_g1 := B_g1'
 clear hk
 refine q0 (pl P114_3 4) hE (st_fieldAddr Try.underlying32 rfl tS4 rfl rfl) ?_; clear hE a; intro a hE
 refine p_cons (s_store (off := 0) (k := 1) (cs' := #[Value.bool dn', Value.bool wr, Value.bool fa, Value.int .i64 ins, Value.int .i64 own]) (pl P114_3 5) hE wn_none tS4 rfl rfl rfl rfl B_g1 (Nat.le_of_ble_eq_true rfl) rfl ?_)
 intro w13 B_g1' hk
 replace B_g4 := kp_blk B_g4 hk (Ne.symm n_g1_g4)
 replace B_g8 := kp_blk B_g8 hk (Ne.symm n_g1_g8)
 replace K_0 := K_0.then_ hk (fun k h => by rw [show k = g1 from h]; exact Or.inr z_0_g1)
 replace B_g1 := B_g1'
 clear hk
 refine p_nil (x_norm (c_reg R114_4_l ?_))
 refine q0 (pl P114_4 0) hE (st_loadN (off := 0) (k := 5) (vs := [Value.bool dn', Value.bool wr, Value.bool fa, Value.int .i64 ins, Value.int .i64 own]) tA32 tS32 rfl B_g1 rfl rfl) ?_; clear hE a; intro a hE
 refine p_cons (s_store (off := 0) (k := 5) (cs' := #[Value.bool dn', Value.bool wr, Value.bool fa, Value.int .i64 ins, Value.int .i64 own]) (pl P114_4 1) hE wn_none tS32 rfl rfl rfl rfl B_g4 (Nat.le_of_ble_eq_true rfl) rfl ?_)
 intro w14 B_g4' hk
 replace B_g1 := kp_blk B_g1 hk n_g1_g4
 replace B_g8 := kp_blk B_g8 hk (Ne.symm n_g4_g8)
 replace K_0 := K_0.then_ hk (fun k h => by rw [show k = g4 from h]; exact Or.inr z_0_g4)
 replace B_g4 := B_g4'
 clear hk
 refine q0 (pl P114_4 2) hE (st_assign rfl) ?_; clear hE a; intro a hE
 refine p_nil (x_norm (wp_ret ?_))
 refine ret_list (rs := [.cell 6 32, .tmp 7]) (vs := [Value.agg #[Value.bool dn', Value.bool wr, Value.bool fa, Value.int .i64 ins, Value.int .i64 own], Value.int .i64 0]) rfl hE (.cellN (us := [Value.bool dn', Value.bool wr, Value.bool fa, Value.int .i64 ins, Value.int .i64 own]) tA32 tS32 rfl B_g4 rfl (.tmp rfl .nil)) rfl ?_
 exact ⟨rfl, K_0⟩
end Go.Proofs.Ytijfocnneccccaa.Hp
