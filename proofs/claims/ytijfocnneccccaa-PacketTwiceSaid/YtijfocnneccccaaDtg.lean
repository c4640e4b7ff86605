/- Package datagram: a data packet's bytes; Send, Control. -/
import Derived.Test.YtijfocnneccccaaHop6
set_option maxRecDepth 100000
set_option linter.unusedVariables false
set_option linter.unusedSimpArgs false
namespace Go.Proofs.Ytijfocnneccccaa.Dg
open Go.RowKit Go.Proofs.YtijfocnneccccaaW.PrintWords Go.Proofs.Ytijfocnneccccaa.Ds Go.Proofs.Ytijfocnneccccaa.Ad Go.Proofs.Ytijfocnneccccaa.Hd Go.Proofs.Ytijfocnneccccaa.Hw Go.Proofs.Ytijfocnneccccaa.Hp
open Go.Proofs.Ytijfocnneccccaa.Pk (Kp fitsF spanF putF digF fits_any put_ok)
open Go.Proofs.Ytijfocnneccccaa.Mi (st_eqlP MapI)
/-- A message's cells. -/
def rN (f : Nat → Value) : List Value := [f 0, f 1, f 2, f 3, f 4, f 5, f 6, f 7, f 8, f 9, f 10, f 11, f 12, f 13, f 14, f 15, f 16, f 17, f 18, f 19, f 20, f 21, f 22, f 23, f 24, f 25, f 26, f 27]
/-- A packet's cells. -/
def PA (cl fw ln nx hp : Int) (sa da : Nat → Int) (dt : Bool) (mv : Nat → Value) (dn wr fa : Bool) (ins rk num : Int) (T : Option Addr) (n c : Nat) : List Value := ([Value.int .i64 cl, Value.int .i64 fw, Value.int .i64 ln, Value.int .i64 nx, Value.int .i64 hp] ++ b16 sa ++ b16 da ++ [Value.bool dt] ++ rN mv ++ [Value.bool dn, Value.bool wr, Value.bool fa, Value.int .i64 ins, Value.int .i64 rk, Value.int .i64 num, Value.slice T n c])
theorem ones_mv {a b : List Value} {f : Nat → Value} (hf : ∀ j, (f j).oneCell' = true) (ha : a.all (·.oneCell') = true) (hb : b.all (·.oneCell') = true) : (a ++ rN f ++ b).all (·.oneCell') = true := by
 rw [List.all_append, List.all_append, ha, hb]
 simp [rN, hf]
/-- What is wrong with a data packet. -/
def okP (cl fw hp ins rk num : Int) : Bool := okO ins rk && fitsF 4 [num] && okF cl fw 0 0 hp
def pktE (cl fw hp ins rk num : Int) (n : Nat) : Int := if okP cl fw hp ins rk num = true then (if 1228 < n then 2 else 0) else 1
/-- What stands behind a data packet's header. -/
def dataB (dn wr fa : Bool) (ins rk num : Int) (l : List Int) : List Int := hopB 17 dn wr fa ins rk ++ putF 4 [num] ++ l
theorem dataB_len (dn wr fa : Bool) (ins rk num : Int) (l : List Int) : (dataB dn wr fa ins rk num l).length = 12 + l.length := by unfold dataB; rw [List.length_append]; rfl
theorem R34_0_l : List.range (regOf Try.f34 0).size = [0] := by kernel_rfl
theorem R34_1_l : List.range (regOf Try.f34 1).size = [0, 1] := by kernel_rfl
theorem R34_2_l : List.range (regOf Try.f34 2).size = [0] := by kernel_rfl
theorem R34_3_l : List.range (regOf Try.f34 3).size = [0, 1, 2, 3] := by kernel_rfl
theorem body34 : Try.f34.body = some (.seq (.region 0 (regOf Try.f34 0) false) (.seq (.seq (.region 1 (regOf Try.f34 1) false) (.cond (Operand.tmp 4) (.seq (.region 2 (regOf Try.f34 2) false) (.ret)) (.skip))) (.seq (.region 3 (regOf Try.f34 3) false) (.ret)))) := by kernel_rfl
theorem p34_0_0 : pj (regOf Try.f34 0) 0 = some (some 2, .assign (.const (.slice none 0 0)), 33, none) := by kernel_rfl
theorem P34_1 : (List.range (regOf Try.f34 1).size).map (pj (regOf Try.f34 1)) = [zz 3 (.move (.tmp 0)) 33, zz 4 (.binOp .eql 33 (.tmp 3) (.const (.slice none 0 0)) 33) 4] := by kernel_rfl
theorem p34_2_0 : pj (regOf Try.f34 2) 0 = some (some 2, .assign (.const (.slice none 0 0)), 33, none) := by kernel_rfl
theorem P34_3 : (List.range (regOf Try.f34 3).size).map (pj (regOf Try.f34 3)) = [zz 5 (.buildSlice 33 0 #[]) 33, zz 6 (.move (.tmp 0)) 33, zz 7 (.call { callee := .builtin .append, args := #[.tmp 5, .tmp 6], argTypes := #[33, 33] }) 33, zz 2 (.assign (.tmp 7)) 33] := by kernel_rfl
theorem eD5 : elemD Try.prog 5 = some (1, 1, 1) := by kernel_rfl
set_option maxHeartbeats 4000000 in
theorem clone_s (A : Option Addr) (c : Nat) (l : List Int) (w : World) (h : Kd.C (Kd.int .u8) w A l.length l) (hmx : l.length ≤ 1000000) : Calls Try.prog 34 #[.slice A l.length c] w fun e w' => ∃ A' c', e = .returned (.slice A' l.length c') ∧ w'.ownsRow w.heap.size 5 1 (.slice A' l.length c') l.length (encs (Value.int .u8) l) ∧ Kp w w' (fun _ => False) := by
 have K_0 := Kp.refl w (fun _ => False)
 refine enter (args := [Value.slice A l.length c]) (n := 8) Try.func34 body34 rfl rfl rfl ?_
 intro a hE
 refine c_reg R34_0_l ?_
 refine q0 p34_0_0 hE (st_assign rfl) ?_; clear hE a; intro a hE
 refine p_nil (x_norm (wp_seq ?_))
 rcases Decidable.em (A.isNone = true) with hNIL | hNIL
 ·
  refine c_reg R34_1_l ?_
  refine qn hE (rc (pl P34_1 0) (st_move rfl) (rc (pl P34_1 1) (Go.Proofs.Ytijfocnneccccaa.Pk.st_eqlSn (b := true) Try.underlying33 rfl rfl hNIL) rn)) ?_; clear hE a; intro a hE
  refine p_nil (x_norm ?_)
  refine c_cond (t := true) hE rfl ?_
  refine c_reg R34_2_l ?_
  refine q0 p34_2_0 hE (st_assign rfl) ?_; clear hE a; intro a hE
  refine p_nil (x_norm (wp_ret (x_ret ?_)))
  refine ret_one (v := Value.slice none 0 0) rfl hE (.tmp rfl .nil) ?_
  have h0 : l = [] := by
    rcases Nat.eq_zero_or_pos l.length with h2 | h2
    · exact List.eq_nil_of_length_eq_zero h2
    ·
     obtain ⟨ad, h3, _⟩ := h.2.2 h2
     rw [h3] at hNIL; cases hNIL
  subst h0
  exact ⟨none, 0, rfl, own_none _ _ _ _, K_0⟩
 ·
  refine c_reg R34_1_l ?_
  refine qn hE (rc (pl P34_1 0) (st_move rfl) (rc (pl P34_1 1) (Go.Proofs.Ytijfocnneccccaa.Pk.st_eqlSn (b := false) Try.underlying33 rfl rfl (Bool.eq_false_iff.2 hNIL)) rn)) ?_; clear hE a; intro a hE
  refine p_nil (x_norm ?_)
  refine c_cond (t := false) hE rfl ?_
  refine wp_skip (x_norm (c_reg R34_3_l ?_))
  refine p_cons (s_row (xs := []) (vs := []) (cs := #[]) (pl P34_3 0) hE wn_none rfl Try.underlying33 rfl (by kernel_rfl) ?_)
  clear hE a; intro g1 w2 z3 B_g1 hk a hE
  have z_0_g1 := Nat.le_trans K_0.kept.1 z3
  replace K_0 := K_0.then_ hk (fun _ h => h.elim)
  clear hk
  refine q0 (pl P34_3 1) hE (st_move rfl) ?_; clear hE a; intro a hE
  have O_q4 := own_blk9 (k := .u8) (l := []) B_g1 (show w.heap.size ≤ g1 from z_0_g1) rfl (Nat.le_of_ble_eq_true rfl)
  have Z_0_q4 : ∀ k, OB (some ⟨g1, 0, none⟩) k → (fun _ => False) k ∨ w.heap.size ≤ k := fun k h => by have h := ob_blk.1 h; subst h; exact Or.inr z_0_g1
  refine p_cons (s_appendC (xs := []) (ys := l) (pl P34_3 2) hE wn_none rfl Try.underlying33 eD5 rfl O_q4 rfl (C_to h K_0) (by omega) (by omega) K_0.kept.1 ?_)
  clear hE a; intro Aq45 cq46 w7 O_q4' hk hat a hE
  rw [Nat.zero_add] at hE O_q4'
  rw [List.nil_append] at O_q4'
  have Z_0_q4' := grow_z Z_0_q4 K_0.kept.1 hat
  replace K_0 := K_0.then_ hk Z_0_q4
  replace Z_0_q4 := Z_0_q4'
  replace O_q4 : w7.ownsRow _ 5 1 (.slice Aq45 l.length cq46) l.length (encs (Value.int .u8) l) := O_q4'
  clear O_q4' hk hat
  refine q0 (pl P34_3 3) hE (st_assign rfl) ?_; clear hE a; intro a hE
  refine p_nil (x_norm (wp_ret ?_))
  refine ret_one (v := Value.slice Aq45 l.length cq46) rfl hE (.tmp rfl .nil) ?_
  exact ⟨_, _, rfl, O_q4, K_0⟩
theorem R81_0_l : List.range (regOf Try.f81 0).size = [0, 1] := by kernel_rfl
theorem R81_1_l : List.range (regOf Try.f81 1).size = [0, 1, 2, 3] := by kernel_rfl
theorem R81_2_l : List.range (regOf Try.f81 2).size = [0, 1] := by kernel_rfl
theorem R81_3_l : List.range (regOf Try.f81 3).size = [0, 1, 2] := by kernel_rfl
theorem R81_4_l : List.range (regOf Try.f81 4).size = [0, 1, 2] := by kernel_rfl
theorem R81_5_l : List.range (regOf Try.f81 5).size = [0] := by kernel_rfl
theorem R81_6_l : List.range (regOf Try.f81 6).size = [0, 1, 2] := by kernel_rfl
theorem R81_7_l : List.range (regOf Try.f81 7).size = [0] := by kernel_rfl
theorem R81_8_l : List.range (regOf Try.f81 8).size = [0, 1] := by kernel_rfl
theorem R81_9_l : List.range (regOf Try.f81 9).size = [0, 1] := by kernel_rfl
theorem R81_10_l : List.range (regOf Try.f81 10).size = [0, 1, 2, 3, 4, 5, 6, 7, 8, 9] := by kernel_rfl
theorem R81_11_l : List.range (regOf Try.f81 11).size = [0, 1, 2, 3, 4, 5, 6] := by kernel_rfl
theorem R81_12_l : List.range (regOf Try.f81 12).size = [0, 1, 2, 3, 4, 5] := by kernel_rfl
theorem R81_13_l : List.range (regOf Try.f81 13).size = [0, 1, 2] := by kernel_rfl
theorem R81_15_l : List.range (regOf Try.f81 15).size = [0, 1] := by kernel_rfl
theorem R81_16_l : List.range (regOf Try.f81 16).size = [0, 1, 2] := by kernel_rfl
theorem R81_18_l : List.range (regOf Try.f81 18).size = [0, 1, 2] := by kernel_rfl
theorem body81 : Try.f81.body = some (.seq (.region 0 (regOf Try.f81 0) false) (.seq (.seq (.region 1 (regOf Try.f81 1) false) (.cond (Operand.tmp 14) (.seq (.region 2 (regOf Try.f81 2) false) (.ret)) (.skip))) (.seq (.region 3 (regOf Try.f81 3) false) (.seq (.seq (.region 4 (regOf Try.f81 4) false) (.block 0 (.loop (.seq (.region 5 (regOf Try.f81 5) false) (.seq (.cond (Operand.tmp 20) (.skip) (.exit 0)) (.seq (.block 1 (.seq (.region 6 (regOf Try.f81 6) false) (.seq (.seq (.region 7 (regOf Try.f81 7) false) (.block 2 (.seq (.block 5 (.seq (.block 4 (.seq (.block 3 (.seq (.seq (.seq (.region 8 (regOf Try.f81 8) false) (.cond (Operand.tmp 24) (.exit 3) (.skip))) (.seq (.region 9 (regOf Try.f81 9) false) (.cond (Operand.tmp 26) (.exit 4) (.skip)))) (.exit 5))) (.region 10 (regOf Try.f81 10) false))) (.region 11 (regOf Try.f81 11) false))) (.seq (.region 12 (regOf Try.f81 12) false) (.exit 2))))) (.seq (.region 13 (regOf Try.f81 13) false) (.cond (Operand.tmp 50) (.seq (.region 14 (regOf Try.f81 14) false) (.ret)) (.skip)))))) (.region 15 (regOf Try.f81 15) false))))))) (.seq (.seq (.region 16 (regOf Try.f81 16) false) (.cond (Operand.tmp 54) (.seq (.region 17 (regOf Try.f81 17) false) (.ret)) (.skip))) (.seq (.region 18 (regOf Try.f81 18) false) (.ret))))))) := by kernel_rfl
theorem P81_0 : (List.range (regOf Try.f81 0).size).map (pj (regOf Try.f81 0)) = [zz 6 (.assign (.const (.slice none 0 0))) 33, zz 7 (.assign (.const (.int .i64 0))) 36] := by kernel_rfl
theorem P81_1 : (List.range (regOf Try.f81 1).size).map (pj (regOf Try.f81 1)) = [zz 11 (.move (.tmp 1)) 3, zz 12 (.move (.tmp 2)) 22, zz 13 (.call { callee := .value (.func 47), args := #[.tmp 11, .tmp 12], argTypes := #[3, 22] }) 4, zz 14 (.unOp .not 4 (.tmp 13)) 4] := by kernel_rfl
theorem cl47 : callable Try.f47 = true := by kernel_rfl
theorem P81_2 : (List.range (regOf Try.f81 2).size).map (pj (regOf Try.f81 2)) = [zz 6 (.assign (.const (.slice none 0 0))) 33, zz 7 (.assign (.const (.int .i64 1))) 36] := by kernel_rfl
set_option maxHeartbeats 4000000 in
theorem put_bad (A B : Option Addr) (na c cl : Nat) (k n : Int) (hf : fitsF k [n] = false) (w : World) (h : Kd.C (Kd.int .i64) w B 1 [n]) (hc : 1 ≤ cl) : Calls Try.prog 81 #[.slice A na c, .int .i64 k, .slice B 1 cl] w fun e w' => e = .returned (.tuple #[.slice none 0 0, .int .i64 1]) ∧ Kp w w' (fun _ => False) := by
 have K_0 := Kp.refl w (fun _ => False)
 refine enter (args := [Value.slice A na c, Value.int .i64 k, Value.slice B 1 cl]) (n := 56) Try.func81 body81 rfl rfl rfl ?_
 intro a hE
 refine c_reg R81_0_l ?_
 refine qn hE (rc (pl P81_0 0) (st_assign rfl) (rc (pl P81_0 1) (st_assign rfl) rn)) ?_; clear hE a; intro a hE
 refine p_nil (x_norm (wp_seq (c_reg R81_1_l ?_)))
 refine qn hE (rc (pl P81_1 0) (st_move rfl) (rc (pl P81_1 1) (st_move rfl) rn)) ?_; clear hE a; intro a hE
 refine p_cons (s_call (xs := [Operand.tmp 11, Operand.tmp 12]) (args := [Value.int .i64 k, Value.slice B 1 cl]) (pl P81_1 2) hE wn_none rfl rfl Try.func47 cl47 (fits_any B cl k [n] false hf _ (C_to h K_0) hc) ?_)
 rintro e w1 ⟨rfl, hk⟩
 replace K_0 := K_0.then_ hk (fun _ h => h.elim)
 refine ⟨_, rfl, ?_⟩; clear hE a; intro a hE
 refine q0 (pl P81_1 3) hE (st_not rfl rfl) ?_; clear hE a; intro a hE
 refine p_nil (x_norm ?_)
 refine c_cond (t := true) hE rfl ?_
 refine c_reg R81_2_l ?_
 refine qn hE (rc (pl P81_2 0) (st_assign rfl) (rc (pl P81_2 1) (st_assign rfl) rn)) ?_; clear hE a; intro a hE
 refine p_nil (x_norm (wp_ret (x_ret ?_)))
 refine ret_list (rs := [.tmp 6, .tmp 7]) (vs := [Value.slice none 0 0, Value.int .i64 1]) rfl hE (.tmp rfl (.tmp rfl .nil)) rfl ?_
 exact ⟨rfl, K_0⟩
theorem R39_0_l : List.range (regOf Try.f39 0).size = [0, 1, 2] := by kernel_rfl
theorem R39_1_l : List.range (regOf Try.f39 1).size = [0, 1, 2, 3, 4, 5, 6, 7] := by kernel_rfl
theorem R39_2_l : List.range (regOf Try.f39 2).size = [0, 1] := by kernel_rfl
theorem R39_3_l : List.range (regOf Try.f39 3).size = [0, 1, 2] := by kernel_rfl
theorem R39_4_l : List.range (regOf Try.f39 4).size = [0, 1, 2, 3, 4, 5, 6, 7, 8, 9] := by kernel_rfl
theorem R39_5_l : List.range (regOf Try.f39 5).size = [0, 1, 2, 3, 4, 5, 6] := by kernel_rfl
theorem body39 : Try.f39.body = some (.seq (.region 0 (regOf Try.f39 0) false) (.seq (.region 1 (regOf Try.f39 1) false) (.seq (.seq (.region 2 (regOf Try.f39 2) false) (.cond (Operand.tmp 13) (.seq (.region 3 (regOf Try.f39 3) false) (.ret)) (.skip))) (.seq (.region 4 (regOf Try.f39 4) false) (.seq (.region 5 (regOf Try.f39 5) false) (.ret)))))) := by kernel_rfl
theorem P39_0 : (List.range (regOf Try.f39 0).size).map (pj (regOf Try.f39 0)) = [zz 1 (.box 35 (.tmp 0)) 0, zz 2 (.assign (.const (.slice none 0 0))) 33, zz 3 (.assign (.const (.int .i64 0))) 36] := by kernel_rfl
theorem P39_1 : (List.range (regOf Try.f39 1).size).map (pj (regOf Try.f39 1)) = [zz 7 (.fieldAddr 35 (.tmp 1) 3) 0, zz 8 (.load 32 (.tmp 7)) 32, zz 9 (.call { callee := .value (.func 80), args := #[.const (.int .i64 17), .tmp 8], argTypes := #[3, 32] }) 60, zz 6 (.move (.tmp 9)) 60, zz 10 (.extract (.tmp 6) 0) 33, zz 11 (.extract (.tmp 6) 1) 36, zz 4 (.assign (.tmp 10)) 33, zz 5 (.assign (.tmp 11)) 36] := by kernel_rfl
theorem tS32 : (Try.prog.info? 32).map (·.size) = some 5 := by kernel_rfl
theorem tA32 : (Try.prog.underlying 32).map aggD = some true := by kernel_rfl
theorem cl80 : callable Try.f80 = true := by kernel_rfl
theorem P39_2 : (List.range (regOf Try.f39 2).size).map (pj (regOf Try.f39 2)) = [zz 12 (.move (.tmp 5)) 36, zz 13 (.binOp .neq 36 (.tmp 12) (.const (.int .i64 0)) 36) 4] := by kernel_rfl
theorem P39_4 : (List.range (regOf Try.f39 4).size).map (pj (regOf Try.f39 4)) = [zz 16 (.move (.tmp 4)) 33, zz 17 (.fieldAddr 35 (.tmp 1) 4) 0, zz 18 (.load 3 (.tmp 17)) 3, zz 19 (.buildSlice 22 1 #[(0, .tmp 18)]) 22, zz 20 (.call { callee := .value (.func 81), args := #[.tmp 16, .const (.int .i64 4), .tmp 19], argTypes := #[33, 3, 22] }) 60, zz 15 (.move (.tmp 20)) 60, zz 21 (.extract (.tmp 15) 0) 33, zz 22 (.extract (.tmp 15) 1) 36, zz 4 (.assign (.tmp 21)) 33, zz 5 (.assign (.tmp 22)) 36] := by kernel_rfl
theorem tS3 : (Try.prog.info? 3).map (·.size) = some 1 := by kernel_rfl
theorem tA3 : (Try.prog.underlying 3).map aggD = some false := by kernel_rfl
theorem cl81 : callable Try.f81 = true := by kernel_rfl
theorem P39_5 : (List.range (regOf Try.f39 5).size).map (pj (regOf Try.f39 5)) = [zz 23 (.move (.tmp 4)) 33, zz 24 (.fieldAddr 35 (.tmp 1) 5) 0, zz 25 (.load 33 (.tmp 24)) 33, zz 26 (.call { callee := .builtin .append, args := #[.tmp 23, .tmp 25], argTypes := #[33, 33] }) 33, zz 27 (.move (.tmp 5)) 36, zz 2 (.assign (.tmp 26)) 33, zz 3 (.assign (.tmp 27)) 36] := by kernel_rfl
theorem tS33 : (Try.prog.info? 33).map (·.size) = some 1 := by kernel_rfl
theorem tA33 : (Try.prog.underlying 33).map aggD = some false := by kernel_rfl
theorem P39_3 : (List.range (regOf Try.f39 3).size).map (pj (regOf Try.f39 3)) = [zz 14 (.move (.tmp 5)) 36, zz 2 (.assign (.const (.slice none 0 0))) 33, zz 3 (.assign (.tmp 14)) 36] := by kernel_rfl
set_option maxHeartbeats 4000000 in
theorem data_k (cl fw ln nx hp : Int) (sa da : Nat → Int) (mv : Nat → Value) (dn wr fa : Bool) (ins rk num : Int) (T : Option Addr) (cT : Nat) (l : List Int) {R : Ending → World → Prop} (w : World) (F_T : ∀ W', Kp w W' (fun _ => False) → Kd.C (Kd.int .u8) W' T l.length l) (hml : l.length ≤ 900000) (h1 : okO ins rk = true → fitsF 4 [num] = true → ∀ A c w', w'.ownsRow w.heap.size 5 1 (.slice A (12 + l.length) c) (12 + l.length) (encs (Value.int .u8) (dataB dn wr fa ins rk num l)) → Kp w w' (fun _ => False) → R (.returned (.tuple #[.slice A (12 + l.length) c, .int .i64 0])) w') (h2 : (okO ins rk && fitsF 4 [num]) = false → ∀ A n c w', Kp w w' (fun _ => False) → R (.returned (.tuple #[.slice A n c, .int .i64 1])) w') : Calls Try.prog 39 #[Value.agg (PA cl fw ln nx hp sa da true mv dn wr fa ins rk num T l.length cT).toArray] w R := by
 have K_0 := Kp.refl w (fun _ => False)
 refine enter (args := [Value.agg (PA cl fw ln nx hp sa da true mv dn wr fa ins rk num T l.length cT).toArray]) (n := 28) Try.func39 body39 rfl rfl rfl ?_
 intro a hE
 refine c_reg R39_0_l ?_
 refine p_cons (s_box (pl P39_0 0) hE wn_none rfl rfl ?_)
 clear hE a; intro g1 w2 z3 B_g1 hk a hE
 replace B_g1 : w2.heap[g1]? = some (.cells (PA cl fw ln nx hp sa da true mv dn wr fa ins rk num T l.length cT).toArray 35 (0, 0)) := B_g1
 have z_0_g1 := Nat.le_trans K_0.kept.1 z3
 replace K_0 := K_0.then_ hk (fun _ h => h.elim)
 clear hk
 refine qn hE (rc (pl P39_0 1) (st_assign rfl) (rc (pl P39_0 2) (st_assign rfl) rn)) ?_; clear hE a; intro a hE
 refine p_nil (x_norm ?_)
 rcases Decidable.em (okO ins rk = true) with hOK | hOK
 ·
  rcases Decidable.em (fitsF 4 [num] = true) with hF4 | hF4
  ·
   refine c_reg R39_1_l ?_
   refine qn hE (rc (pl P39_1 0) (st_fieldAddr Try.underlying35 rfl tS32 rfl rfl) (rc (pl P39_1 1) (st_loadN (off := 66) (k := 5) (vs := [Value.bool dn, Value.bool wr, Value.bool fa, Value.int .i64 ins, Value.int .i64 rk]) tA32 tS32 rfl B_g1 rfl rfl) rn)) ?_; clear hE a; intro a hE
   have hnb_g1 := blk_lt B_g1
   have hnz_0 := K_0.kept.1
   refine p_cons (s_call (xs := [Operand.const (Value.int IntKind.i64 17), Operand.tmp 8]) (args := [Value.int .i64 17, Value.agg #[Value.bool dn, Value.bool wr, Value.bool fa, Value.int .i64 ins, Value.int .i64 rk]]) (pl P39_1 2) hE wn_none rfl rfl Try.func80 cl80 (oenc_ok 17 dn wr fa ins rk (by decide) hOK _) ?_)
   rintro e w7 ⟨A5, c6, rfl, O_q4, hk⟩
   replace B_g1 := kp_blk B_g1 hk (fun h => h)
   replace K_0 := K_0.then_ hk (fun _ h => h.elim)
   have Nb_q4_g1 : ¬ OB A5 g1 := fun h => by have := (own_ob O_q4 h).1; have := hnb_g1; omega
   have Z_0_q4 : ∀ k, OB A5 k → (fun _ => False) k ∨ w.heap.size ≤ k := fun k h => .inr (by have := (own_ob O_q4 h).1; have := hnz_0; omega)
   replace O_q4 := own_lower O_q4 hnz_0
   refine ⟨_, rfl, ?_⟩; clear hE a; intro a hE
   refine qn hE (rc (pl P39_1 3) (st_move rfl) (rc (pl P39_1 4) (st_extract rfl rfl) (rc (pl P39_1 5) (st_extract rfl rfl) (rc (pl P39_1 6) (st_assign rfl) (rc (pl P39_1 7) (st_assign rfl) rn))))) ?_; clear hE a; intro a hE
   refine p_nil (x_norm (wp_seq (c_reg R39_2_l ?_)))
   refine qn hE (rc (pl P39_2 0) (st_move rfl) (rc (pl P39_2 1) (st_neq (b := false) rfl rfl (by decide)) rn)) ?_; clear hE a; intro a hE
   refine p_nil (x_norm ?_)
   refine c_cond (t := false) hE rfl ?_
   refine wp_skip (x_norm (c_reg R39_4_l ?_))
   refine qn hE (rc (pl P39_4 0) (st_move rfl) (rc (pl P39_4 1) (st_fieldAddr Try.underlying35 rfl tS3 rfl rfl) (rc (pl P39_4 2) (st_load1 tA3 rfl ((blk_cell B_g1 71).trans rfl)) rn))) ?_; clear hE a; intro a hE
   refine p_cons (s_row (xs := [(0, Operand.tmp 18)]) (vs := [(0, Value.int .i64 num)]) (cs := #[Value.int .i64 num]) (pl P39_4 3) hE wn_none rfl Try.underlying22 rfl (by kernel_rfl) ?_)
   clear hE a; intro g8 w9 z10 B_g8 hk a hE
   have n_g1_g8 : g1 ≠ g8 := ne_new B_g1 z10
   have z_0_g8 := Nat.le_trans K_0.kept.1 z10
   have Nb_q4_g8 : ¬ OB A5 g8 := fun h => by have := (own_ob O_q4 h).2; omega
   replace B_g1 := kp_blk B_g1 hk (fun h => h)
   replace O_q4 := own_keep O_q4 hk (fun _ _ h => h)
   replace K_0 := K_0.then_ hk (fun _ h => h.elim)
   clear hk
   have hnb_g1 := blk_lt B_g1
   have hnb_g8 := blk_lt B_g8
   have hnz_0 := K_0.kept.1
   have hno_q4 := fun k (h : OB A5 k) => (own_ob O_q4 h).2
   refine p_cons (s_call (xs := [Operand.tmp 16, Operand.const (Value.int IntKind.i64 4), Operand.tmp 19]) (args := [Value.slice A5 8 c6, Value.int .i64 4, Value.slice (some ⟨g8, 0, none⟩) 1 1]) (pl P39_4 4) hE wn_none rfl rfl Try.func81 cl81 (put_ok A5 (some ⟨g8, 0, none⟩) c6 1 4 (hopB 17 dn wr fa ins rk) ([num]) 1 rfl hF4 _ (own_told O_q4) (C_blk (k := .i64) (l := [num]) (off := 0) B_g8 ⟨rfl, Nat.le_of_ble_eq_true rfl⟩ rfl) (Nat.le_of_ble_eq_true rfl) (Nat.le_of_ble_eq_true rfl)) ?_)
   rintro e w14 ⟨v9, rfl, O_q11, hb9⟩
   have hk := Kp.of_below hb9 (fun _ => False)
   change World.ownsRow _ _ 5 1 v9 12 (encs (Value.int .u8) ((hopB 17 dn wr fa ins rk) ++ putF 4 [num])) at O_q11
   obtain ⟨A12, c13, rfl⟩ := own_sl O_q11
   replace B_g1 := kp_blk B_g1 hk (fun h => h)
   replace B_g8 := kp_blk B_g8 hk (fun h => h)
   replace O_q4 := own_keep O_q4 hk (fun _ _ h => h)
   replace K_0 := K_0.then_ hk (fun _ h => h.elim)
   have Nb_q11_g1 : ¬ OB A12 g1 := fun h => by have := (own_ob O_q11 h).1; have := hnb_g1; omega
   have Nb_q11_g8 : ¬ OB A12 g8 := fun h => by have := (own_ob O_q11 h).1; have := hnb_g8; omega
   have Z_0_q11 : ∀ k, OB A12 k → (fun _ => False) k ∨ w.heap.size ≤ k := fun k h => .inr (by have := (own_ob O_q11 h).1; have := hnz_0; omega)
   have NN_q11_q4 : ∀ k, OB A12 k → ¬ OB A5 k := fun k h h2 => by have := (own_ob O_q11 h).1; have := hno_q4 k h2; omega
   have NN_q4_q11 : ∀ k, OB A5 k → ¬ OB A12 k := fun k h h2 => NN_q11_q4 k h2 h
   replace O_q11 := own_lower O_q11 hnz_0
   refine ⟨_, rfl, ?_⟩; clear hE a; intro a hE
   refine qn hE (rc (pl P39_4 5) (st_move rfl) (rc (pl P39_4 6) (st_extract rfl rfl) (rc (pl P39_4 7) (st_extract rfl rfl) (rc (pl P39_4 8) (st_assign rfl) (rc (pl P39_4 9) (st_assign rfl) rn))))) ?_; clear hE a; intro a hE
   refine p_nil (x_norm (c_reg R39_5_l ?_))
   refine qn hE (rc (pl P39_5 0) (st_move rfl) (rc (pl P39_5 1) (st_fieldAddr Try.underlying35 rfl tS33 rfl rfl) (rc (pl P39_5 2) (st_load1 tA33 rfl ((blk_cell B_g1 72).trans rfl)) rn))) ?_; clear hE a; intro a hE
   refine p_cons (s_appendC (xs := ((hopB 17 dn wr fa ins rk) ++ putF 4 [num])) (ys := l) (pl P39_5 3) hE wn_none rfl Try.underlying33 eD5 rfl O_q11 rfl (F_T _ K_0) (by omega) (by omega) K_0.kept.1 ?_)
   clear hE a; intro Aq1115 cq1116 w17 O_q11' hk hat a hE
   have Nb_q11_g1' := grow_n Nb_q11_g1 (blk_lt B_g1) hat
   have Nb_q11_g8' := grow_n Nb_q11_g8 (blk_lt B_g8) hat
   have NN_q4_q11' : ∀ k, OB A5 k → ¬ OB Aq1115 k := fun k h h2 => (hat k h2).elim (NN_q4_q11 k h) (fun h3 => by have := (own_ob O_q4 h).2; omega)
   have Z_0_q11' := grow_z Z_0_q11 K_0.kept.1 hat
   replace B_g1 := kp_blk B_g1 hk Nb_q11_g1
   replace B_g8 := kp_blk B_g8 hk Nb_q11_g8
   replace O_q4 := own_keep O_q4 hk NN_q4_q11
   replace K_0 := K_0.then_ hk Z_0_q11
   replace Nb_q11_g1 := Nb_q11_g1'
   replace Nb_q11_g8 := Nb_q11_g8'
   replace NN_q4_q11 := NN_q4_q11'
   replace NN_q11_q4 : ∀ k, OB Aq1115 k → ¬ OB A5 k := fun k h h2 => NN_q4_q11 k h2 h
   replace Z_0_q11 := Z_0_q11'
   replace O_q11 : w17.ownsRow _ 5 1 (.slice Aq1115 (12 + l.length) cq1116) (12 + l.length) (encs (Value.int .u8) (((hopB 17 dn wr fa ins rk) ++ putF 4 [num]) ++ l)) := O_q11'
   clear O_q11' hk hat
   refine qn hE (rc (pl P39_5 4) (st_move rfl) (rc (pl P39_5 5) (st_assign rfl) (rc (pl P39_5 6) (st_assign rfl) rn))) ?_; clear hE a; intro a hE
   refine p_nil (x_norm (wp_ret ?_))
   refine ret_list (rs := [.tmp 2, .tmp 3]) (vs := [Value.slice Aq1115 (12 + l.length) cq1116, Value.int .i64 0]) rfl hE (.tmp rfl (.tmp rfl .nil)) rfl ?_
   exact h1 hOK hF4 _ _ _ O_q11 K_0
  ·
   have hF49 : fitsF 4 [num] = false := by simpa using hF4
   refine c_reg R39_1_l ?_
   refine qn hE (rc (pl P39_1 0) (st_fieldAddr Try.underlying35 rfl tS32 rfl rfl) (rc (pl P39_1 1) (st_loadN (off := 66) (k := 5) (vs := [Value.bool dn, Value.bool wr, Value.bool fa, Value.int .i64 ins, Value.int .i64 rk]) tA32 tS32 rfl B_g1 rfl rfl) rn)) ?_; clear hE a; intro a hE
   have hnb_g1 := blk_lt B_g1
   have hnz_0 := K_0.kept.1
   refine p_cons (s_call (xs := [Operand.const (Value.int IntKind.i64 17), Operand.tmp 8]) (args := [Value.int .i64 17, Value.agg #[Value.bool dn, Value.bool wr, Value.bool fa, Value.int .i64 ins, Value.int .i64 rk]]) (pl P39_1 2) hE wn_none rfl rfl Try.func80 cl80 (oenc_ok 17 dn wr fa ins rk (by decide) hOK _) ?_)
   rintro e w21 ⟨A19, c20, rfl, O_q18, hk⟩
   replace B_g1 := kp_blk B_g1 hk (fun h => h)
   replace K_0 := K_0.then_ hk (fun _ h => h.elim)
   have Nb_q18_g1 : ¬ OB A19 g1 := fun h => by have := (own_ob O_q18 h).1; have := hnb_g1; omega
   have Z_0_q18 : ∀ k, OB A19 k → (fun _ => False) k ∨ w.heap.size ≤ k := fun k h => .inr (by have := (own_ob O_q18 h).1; have := hnz_0; omega)
   replace O_q18 := own_lower O_q18 hnz_0
   refine ⟨_, rfl, ?_⟩; clear hE a; intro a hE
   refine qn hE (rc (pl P39_1 3) (st_move rfl) (rc (pl P39_1 4) (st_extract rfl rfl) (rc (pl P39_1 5) (st_extract rfl rfl) (rc (pl P39_1 6) (st_assign rfl) (rc (pl P39_1 7) (st_assign rfl) rn))))) ?_; clear hE a; intro a hE
   refine p_nil (x_norm (wp_seq (c_reg R39_2_l ?_)))
   refine qn hE (rc (pl P39_2 0) (st_move rfl) (rc (pl P39_2 1) (st_neq (b := false) rfl rfl (by decide)) rn)) ?_; clear hE a; intro a hE
   refine p_nil (x_norm ?_)
   refine c_cond (t := false) hE rfl ?_
   refine wp_skip (x_norm (c_reg R39_4_l ?_))
   refine qn hE (rc (pl P39_4 0) (st_move rfl) (rc (pl P39_4 1) (st_fieldAddr Try.underlying35 rfl tS3 rfl rfl) (rc (pl P39_4 2) (st_load1 tA3 rfl ((blk_cell B_g1 71).trans rfl)) rn))) ?_; clear hE a; intro a hE
   refine p_cons (s_row (xs := [(0, Operand.tmp 18)]) (vs := [(0, Value.int .i64 num)]) (cs := #[Value.int .i64 num]) (pl P39_4 3) hE wn_none rfl Try.underlying22 rfl (by kernel_rfl) ?_)
   clear hE a; intro g22 w23 z24 B_g22 hk a hE
   have n_g1_g22 : g1 ≠ g22 := ne_new B_g1 z24
   have z_0_g22 := Nat.le_trans K_0.kept.1 z24
   have Nb_q18_g22 : ¬ OB A19 g22 := fun h => by have := (own_ob O_q18 h).2; omega
   replace B_g1 := kp_blk B_g1 hk (fun h => h)
   replace O_q18 := own_keep O_q18 hk (fun _ _ h => h)
   replace K_0 := K_0.then_ hk (fun _ h => h.elim)
   clear hk
   refine p_cons (s_call (xs := [Operand.tmp 16, Operand.const (Value.int IntKind.i64 4), Operand.tmp 19]) (args := [Value.slice A19 8 c20, Value.int .i64 4, Value.slice (some ⟨g22, 0, none⟩) 1 1]) (pl P39_4 4) hE wn_none rfl rfl Try.func81 cl81 (put_bad A19 (some ⟨g22, 0, none⟩) 8 c20 1 4 num hF49 _ (C_blk (k := .i64) (l := [num]) (off := 0) B_g22 ⟨rfl, Nat.le_of_ble_eq_true rfl⟩ rfl) (Nat.le_of_ble_eq_true rfl)) ?_)
   rintro e w25 ⟨rfl, hk⟩
   replace B_g1 := kp_blk B_g1 hk (fun h => h)
   replace B_g22 := kp_blk B_g22 hk (fun h => h)
   replace O_q18 := own_keep O_q18 hk (fun _ _ h => h)
   replace K_0 := K_0.then_ hk (fun _ h => h.elim)
   refine ⟨_, rfl, ?_⟩; clear hE a; intro a hE
   refine qn hE (rc (pl P39_4 5) (st_move rfl) (rc (pl P39_4 6) (st_extract rfl rfl) (rc (pl P39_4 7) (st_extract rfl rfl) (rc (pl P39_4 8) (st_assign rfl) (rc (pl P39_4 9) (st_assign rfl) rn))))) ?_; clear hE a; intro a hE
   refine p_nil (x_norm (c_reg R39_5_l ?_))
   refine qn hE (rc (pl P39_5 0) (st_move rfl) (rc (pl P39_5 1) (st_fieldAddr Try.underlying35 rfl tS33 rfl rfl) (rc (pl P39_5 2) (st_load1 tA33 rfl ((blk_cell B_g1 72).trans rfl)) rn))) ?_; clear hE a; intro a hE
   have O_qn := own_none w25 w.heap.size 5 1
   have Nb_qn_g1 : ¬ OB none g1 := ob_nil
   have Nb_qn_g22 : ¬ OB none g22 := ob_nil
   have Z_0_qn : ∀ k, OB none k → (fun _ => False) k ∨ w.heap.size ≤ k := fun k h => absurd h ob_nil
   have NN_qn_q18 : ∀ k, OB none k → ¬ OB A19 k := fun k h => absurd h ob_nil
   have NN_q18_qn : ∀ k, OB A19 k → ¬ OB none k := fun k h h2 => NN_qn_q18 k h2 h
   refine p_cons (s_appendC (xs := []) (ys := l) (pl P39_5 3) hE wn_none rfl Try.underlying33 eD5 rfl O_qn rfl (F_T _ K_0) (by omega) (by omega) K_0.kept.1 ?_)
   clear hE a; intro Aqn26 cqn27 w28 O_qn' hk hat a hE
   rw [Nat.zero_add] at hE O_qn'
   rw [List.nil_append] at O_qn'
   have Nb_qn_g1' := grow_n Nb_qn_g1 (blk_lt B_g1) hat
   have Nb_qn_g22' := grow_n Nb_qn_g22 (blk_lt B_g22) hat
   have NN_q18_qn' : ∀ k, OB A19 k → ¬ OB Aqn26 k := fun k h h2 => (hat k h2).elim (NN_q18_qn k h) (fun h3 => by have := (own_ob O_q18 h).2; omega)
   have Z_0_qn' := grow_z Z_0_qn K_0.kept.1 hat
   replace B_g1 := kp_blk B_g1 hk Nb_qn_g1
   replace B_g22 := kp_blk B_g22 hk Nb_qn_g22
   replace O_q18 := own_keep O_q18 hk NN_q18_qn
   replace K_0 := K_0.then_ hk Z_0_qn
   replace Nb_qn_g1 := Nb_qn_g1'
   replace Nb_qn_g22 := Nb_qn_g22'
   replace NN_q18_qn := NN_q18_qn'
   replace NN_qn_q18 : ∀ k, OB Aqn26 k → ¬ OB A19 k := fun k h h2 => NN_q18_qn k h2 h
   replace Z_0_qn := Z_0_qn'
   replace O_qn : w28.ownsRow _ 5 1 (.slice Aqn26 l.length cqn27) l.length (encs (Value.int .u8) l) := O_qn'
   clear O_qn' hk hat
   refine qn hE (rc (pl P39_5 4) (st_move rfl) (rc (pl P39_5 5) (st_assign rfl) (rc (pl P39_5 6) (st_assign rfl) rn))) ?_; clear hE a; intro a hE
   refine p_nil (x_norm (wp_ret ?_))
   refine ret_list (rs := [.tmp 2, .tmp 3]) (vs := [Value.slice Aqn26 l.length cqn27, Value.int .i64 1]) rfl hE (.tmp rfl (.tmp rfl .nil)) rfl ?_
   exact h2 (by rw [hOK, hF49]; rfl) _ _ _ _ K_0
 ·
  have hOK9 : okO ins rk = false := by simpa using hOK
  refine c_reg R39_1_l ?_
  refine qn hE (rc (pl P39_1 0) (st_fieldAddr Try.underlying35 rfl tS32 rfl rfl) (rc (pl P39_1 1) (st_loadN (off := 66) (k := 5) (vs := [Value.bool dn, Value.bool wr, Value.bool fa, Value.int .i64 ins, Value.int .i64 rk]) tA32 tS32 rfl B_g1 rfl rfl) rn)) ?_; clear hE a; intro a hE
  refine p_cons (s_call (xs := [Operand.const (Value.int IntKind.i64 17), Operand.tmp 8]) (args := [Value.int .i64 17, Value.agg #[Value.bool dn, Value.bool wr, Value.bool fa, Value.int .i64 ins, Value.int .i64 rk]]) (pl P39_1 2) hE wn_none rfl rfl Try.func80 cl80 (oenc_bad 17 dn wr fa ins rk (by decide) hOK9 _) ?_)
  rintro e w29 ⟨rfl, hk⟩
  replace B_g1 := kp_blk B_g1 hk (fun h => h)
  replace K_0 := K_0.then_ hk (fun _ h => h.elim)
  refine ⟨_, rfl, ?_⟩; clear hE a; intro a hE
  refine qn hE (rc (pl P39_1 3) (st_move rfl) (rc (pl P39_1 4) (st_extract rfl rfl) (rc (pl P39_1 5) (st_extract rfl rfl) (rc (pl P39_1 6) (st_assign rfl) (rc (pl P39_1 7) (st_assign rfl) rn))))) ?_; clear hE a; intro a hE
  refine p_nil (x_norm (wp_seq (c_reg R39_2_l ?_)))
  refine qn hE (rc (pl P39_2 0) (st_move rfl) (rc (pl P39_2 1) (st_neq (b := true) rfl rfl (by decide)) rn)) ?_; clear hE a; intro a hE
  refine p_nil (x_norm ?_)
  refine c_cond (t := true) hE rfl ?_
  refine c_reg R39_3_l ?_
  refine qn hE (rc (pl P39_3 0) (st_move rfl) (rc (pl P39_3 1) (st_assign rfl) (rc (pl P39_3 2) (st_assign rfl) rn))) ?_; clear hE a; intro a hE
  refine p_nil (x_norm (wp_ret (x_ret ?_)))
  refine ret_list (rs := [.tmp 2, .tmp 3]) (vs := [Value.slice none 0 0, Value.int .i64 1]) rfl hE (.tmp rfl (.tmp rfl .nil)) rfl ?_
  exact h2 (by rw [hOK9]; rfl) _ _ _ _ K_0
theorem data_ok (cl fw ln nx hp : Int) (sa da : Nat → Int) (mv : Nat → Value) (dn wr fa : Bool) (ins rk num : Int) (T : Option Addr) (cT : Nat) (l : List Int) (hok : okO ins rk = true) (h4 : fitsF 4 [num] = true) (w : World) (F_T : ∀ W', Kp w W' (fun _ => False) → Kd.C (Kd.int .u8) W' T l.length l) (hml : l.length ≤ 900000) : Calls Try.prog 39 #[Value.agg (PA cl fw ln nx hp sa da true mv dn wr fa ins rk num T l.length cT).toArray] w fun e w' => ∃ A c, e = .returned (.tuple #[.slice A (12 + l.length) c, .int .i64 0]) ∧ w'.ownsRow w.heap.size 5 1 (.slice A (12 + l.length) c) (12 + l.length) (encs (Value.int .u8) (dataB dn wr fa ins rk num l)) ∧ Kp w w' (fun _ => False) :=
 data_k cl fw ln nx hp sa da mv dn wr fa ins rk num T cT l w F_T hml (fun _ _ A c w' hO hk => ⟨A, c, rfl, hO, hk⟩) (fun h => by rw [hok, h4] at h; cases h)
theorem data_bad (cl fw ln nx hp : Int) (sa da : Nat → Int) (mv : Nat → Value) (dn wr fa : Bool) (ins rk num : Int) (T : Option Addr) (cT : Nat) (l : List Int) (hok : (okO ins rk && fitsF 4 [num]) = false) (w : World) (F_T : ∀ W', Kp w W' (fun _ => False) → Kd.C (Kd.int .u8) W' T l.length l) (hml : l.length ≤ 900000) : Calls Try.prog 39 #[Value.agg (PA cl fw ln nx hp sa da true mv dn wr fa ins rk num T l.length cT).toArray] w fun e w' => ∃ A n c, e = .returned (.tuple #[.slice A n c, .int .i64 1]) ∧ Kp w w' (fun _ => False) :=
 data_k cl fw ln nx hp sa da mv dn wr fa ins rk num T cT l w F_T hml (fun h1 h2 => by rw [h1, h2] at hok; cases hok) (fun _ A n c w' hk => ⟨A, n, c, rfl, hk⟩)
theorem R12_0_l : List.range (regOf Try.f12 0).size = [0, 1, 2] := by kernel_rfl
theorem R12_2_l : List.range (regOf Try.f12 2).size = [0, 1] := by kernel_rfl
theorem R12_3_l : List.range (regOf Try.f12 3).size = [0, 1] := by kernel_rfl
theorem R12_5_l : List.range (regOf Try.f12 5).size = [0, 1, 2, 3, 4, 5, 6] := by kernel_rfl
theorem R12_6_l : List.range (regOf Try.f12 6).size = [0, 1] := by kernel_rfl
theorem R12_7_l : List.range (regOf Try.f12 7).size = [0, 1, 2] := by kernel_rfl
theorem R12_8_l : List.range (regOf Try.f12 8).size = [0, 1, 2, 3, 4, 5, 6, 7, 8] := by kernel_rfl
theorem R12_9_l : List.range (regOf Try.f12 9).size = [0, 1] := by kernel_rfl
theorem R12_10_l : List.range (regOf Try.f12 10).size = [0, 1, 2] := by kernel_rfl
theorem R12_11_l : List.range (regOf Try.f12 11).size = [0, 1, 2] := by kernel_rfl
theorem body12 : Try.f12.body = some (.seq (.region 0 (regOf Try.f12 0) false) (.seq (.region 1 (regOf Try.f12 1) true) (.seq (.region 2 (regOf Try.f12 2) false) (.seq (.seq (.region 3 (regOf Try.f12 3) false) (.cond (Operand.tmp 15) (.region 4 (regOf Try.f12 4) true) (.skip))) (.seq (.region 5 (regOf Try.f12 5) false) (.seq (.seq (.region 6 (regOf Try.f12 6) false) (.cond (Operand.tmp 25) (.seq (.region 7 (regOf Try.f12 7) false) (.ret)) (.skip))) (.seq (.region 8 (regOf Try.f12 8) false) (.seq (.seq (.region 9 (regOf Try.f12 9) false) (.cond (Operand.tmp 35) (.seq (.region 10 (regOf Try.f12 10) false) (.ret)) (.skip))) (.seq (.region 11 (regOf Try.f12 11) false) (.ret)))))))))) := by kernel_rfl
theorem P12_0 : (List.range (regOf Try.f12 0).size).map (pj (regOf Try.f12 0)) = [zz 1 (.box 35 (.tmp 0)) 0, zz 2 (.assign (.const (.slice none 0 0))) 33, zz 3 (.assign (.const (.int .i64 0))) 36] := by kernel_rfl
theorem ns12_1 : Region.noSelect (regOf Try.f12 1) = true := by kernel_rfl
theorem p12_1_0 : pj (regOf Try.f12 1) 0 = some (some 9, .fieldAddr 35 (.tmp 1) 0, 0, none) := by kernel_rfl
theorem tS27 : (Try.prog.info? 27).map (·.size) = some 37 := by kernel_rfl
theorem p12_1_1 : pj (regOf Try.f12 1) 1 = some (some 10, .load 27 (.tmp 9), 27, none) := by kernel_rfl
theorem tA27 : (Try.prog.underlying 27).map aggD = some true := by kernel_rfl
theorem p12_1_2 : pj (regOf Try.f12 1) 2 = some (some 11, .load 35 (.tmp 1), 35, none) := by kernel_rfl
theorem tA35 : (Try.prog.underlying 35).map aggD = some true := by kernel_rfl
theorem tS35 : (Try.prog.info? 35).map (·.size) = some 73 := by kernel_rfl
theorem p12_1_3 : pj (regOf Try.f12 1) 3 = some (some 12, .makeFunc (.func 38) #[.tmp 11] #[], 102, none) := by kernel_rfl
theorem p12_1_4 : pj (regOf Try.f12 1) 4 = some (some 4, .alloc 27, 0, none) := by kernel_rfl
theorem tZ27 : (Try.prog.info? 27).bind (·.zero) = some (Value.agg (([Value.int .i64 0, Value.int .i64 0, Value.int .i64 0, Value.int .i64 0, Value.int .i64 0] ++ b16 (fun _ => 0) ++ b16 (fun _ => 0))).toArray) := by kernel_rfl
theorem p12_1_5 : pj (regOf Try.f12 1) 5 = some (none, .store 27 (.tmp 4) (.tmp 10), 0, none) := by kernel_rfl
theorem p12_1_6 : pj (regOf Try.f12 1) 6 = some (some 5, .assign (.tmp 12), 102, none) := by kernel_rfl
theorem P12_2 : (List.range (regOf Try.f12 2).size).map (pj (regOf Try.f12 2)) = [zz 13 (.fieldAddr 27 (.tmp 4) 3) 0, some (none, .store 3 (.tmp 13) (.const (.int .i64 58)), 0, none)] := by kernel_rfl
theorem P12_3 : (List.range (regOf Try.f12 3).size).map (pj (regOf Try.f12 3)) = [zz 14 (.fieldAddr 35 (.tmp 1) 1) 0, zz 15 (.load 4 (.tmp 14)) 4] := by kernel_rfl
theorem tS4 : (Try.prog.info? 4).map (·.size) = some 1 := by kernel_rfl
theorem tA4 : (Try.prog.underlying 4).map aggD = some false := by kernel_rfl
theorem ns12_4 : Region.noSelect (regOf Try.f12 4) = true := by kernel_rfl
theorem p12_4_0 : pj (regOf Try.f12 4) 0 = some (some 16, .load 35 (.tmp 1), 35, none) := by kernel_rfl
theorem p12_4_1 : pj (regOf Try.f12 4) 1 = some (some 17, .makeFunc (.func 39) #[.tmp 16] #[], 102, none) := by kernel_rfl
theorem p12_4_2 : pj (regOf Try.f12 4) 2 = some (some 18, .fieldAddr 27 (.tmp 4) 3, 0, none) := by kernel_rfl
theorem p12_4_3 : pj (regOf Try.f12 4) 3 = some (none, .store 3 (.tmp 18) (.const (.int .i64 0)), 0, none) := by kernel_rfl
theorem p12_4_4 : pj (regOf Try.f12 4) 4 = some (some 5, .assign (.tmp 17), 102, none) := by kernel_rfl
theorem P12_5 : (List.range (regOf Try.f12 5).size).map (pj (regOf Try.f12 5)) = [zz 20 (.move (.tmp 5)) 102, zz 21 (.call { callee := .value (.tmp 20), args := #[], argTypes := #[] }) 60, zz 19 (.move (.tmp 21)) 60, zz 22 (.extract (.tmp 19) 0) 33, zz 23 (.extract (.tmp 19) 1) 36, zz 6 (.assign (.tmp 22)) 33, zz 7 (.assign (.tmp 23)) 36] := by kernel_rfl
theorem cl39 : callable Try.f39 = true := by kernel_rfl
theorem P12_6 : (List.range (regOf Try.f12 6).size).map (pj (regOf Try.f12 6)) = [zz 24 (.move (.tmp 7)) 36, zz 25 (.binOp .neq 36 (.tmp 24) (.const (.int .i64 0)) 36) 4] := by kernel_rfl
theorem P12_8 : (List.range (regOf Try.f12 8).size).map (pj (regOf Try.f12 8)) = [zz 28 (.load 27 (.tmp 4)) 27, zz 29 (.move (.tmp 6)) 33, zz 30 (.buildSlice 86 1 #[(0, .tmp 29)]) 86, zz 31 (.call { callee := .value (.func 40), args := #[.tmp 28, .tmp 30], argTypes := #[27, 86] }) 60, zz 27 (.move (.tmp 31)) 60, zz 32 (.extract (.tmp 27) 0) 33, zz 33 (.extract (.tmp 27) 1) 36, zz 8 (.assign (.tmp 32)) 33, zz 7 (.assign (.tmp 33)) 36] := by kernel_rfl
theorem cl40 : callable Try.f40 = true := by kernel_rfl
theorem P12_9 : (List.range (regOf Try.f12 9).size).map (pj (regOf Try.f12 9)) = [zz 34 (.move (.tmp 7)) 36, zz 35 (.binOp .neq 36 (.tmp 34) (.const (.int .i64 0)) 36) 4] := by kernel_rfl
theorem P12_10 : (List.range (regOf Try.f12 10).size).map (pj (regOf Try.f12 10)) = [zz 36 (.move (.tmp 7)) 36, zz 2 (.assign (.const (.slice none 0 0))) 33, zz 3 (.assign (.tmp 36)) 36] := by kernel_rfl
theorem P12_11 : (List.range (regOf Try.f12 11).size).map (pj (regOf Try.f12 11)) = [zz 37 (.move (.tmp 8)) 33, zz 2 (.assign (.tmp 37)) 33, zz 3 (.assign (.const (.int .i64 0))) 36] := by kernel_rfl
theorem P12_7 : (List.range (regOf Try.f12 7).size).map (pj (regOf Try.f12 7)) = [zz 26 (.move (.tmp 7)) 36, zz 2 (.assign (.const (.slice none 0 0))) 33, zz 3 (.assign (.tmp 26)) 36] := by kernel_rfl
set_option maxHeartbeats 4000000 in
theorem denc_k (cl fw ln nx hp : Int) (sa da : Nat → Int) (mv : Nat → Value) (dn wr fa : Bool) (ins rk num : Int) (T : Option Addr) (cT : Nat) (l : List Int) {R : Ending → World → Prop} (w : World) (F_T : ∀ W', Kp w W' (fun _ => False) → Kd.C (Kd.int .u8) W' T l.length l) (hml : l.length ≤ 900000) (h1 : pktE cl fw hp ins rk num l.length = 0 → ∀ A c w', w'.ownsRow w.heap.size 5 1 (.slice A (52 + l.length) c) (52 + l.length) (encs (Value.int .u8) (encF cl fw (12 + l.length : Nat) 0 hp sa da ++ dataB dn wr fa ins rk num l)) → Kp w w' (fun _ => False) → R (.returned (.tuple #[.slice A (52 + l.length) c, .int .i64 0])) w') (h2 : ∀ er, pktE cl fw hp ins rk num l.length = er → ¬ er = 0 → ∀ w', Kp w w' (fun _ => False) → R (.returned (.tuple #[.slice none 0 0, .int .i64 er])) w') : Calls Try.prog 12 #[Value.agg (PA cl fw ln nx hp sa da true mv dn wr fa ins rk num T l.length cT).toArray] w R := by
 have K_0 := Kp.refl w (fun _ => False)
 refine enter (args := [Value.agg (PA cl fw ln nx hp sa da true mv dn wr fa ins rk num T l.length cT).toArray]) (n := 38) Try.func12 body12 rfl rfl rfl ?_
 intro a hE
 refine c_reg R12_0_l ?_
 refine p_cons (s_box (pl P12_0 0) hE wn_none rfl rfl ?_)
 clear hE a; intro g1 w2 z3 B_g1 hk a hE
 replace B_g1 : w2.heap[g1]? = some (.cells (PA cl fw ln nx hp sa da true mv dn wr fa ins rk num T l.length cT).toArray 35 (0, 0)) := B_g1
 have z_0_g1 := Nat.le_trans K_0.kept.1 z3
 replace K_0 := K_0.then_ hk (fun _ h => h.elim)
 clear hk
 refine qn hE (rc (pl P12_0 1) (st_assign rfl) (rc (pl P12_0 2) (st_assign rfl) rn)) ?_; clear hE a; intro a hE
 refine p_nil (x_norm ?_)
 refine c_drawS (S := fun W => W.heap[g1]? = some (.cells (PA cl fw ln nx hp sa da true mv dn wr fa ins rk num T l.length cT).toArray 35 (0, 0)) ∧ True) rfl rfl (listed := #[ι, ι, ι, ι, ι, ι, ι]) rfl ?_
 intro w4 hh hk
 replace B_g1 := kp_blk B_g1 hk (fun h => h)
 replace K_0 := K_0.then_ hk (fun _ h => h.elim)
 clear hh hk
 refine Rv.dm ns12_1 hE ⟨B_g1, trivial⟩ (Rv.dc (v := Value.pointer (some ⟨g1, 0, none⟩)) p12_1_0 (fun W hS => (st_fieldAddr Try.underlying35 rfl tS27 rfl rfl)) rfl (Rv.dc (v := Value.agg (([Value.int .i64 cl, Value.int .i64 fw, Value.int .i64 ln, Value.int .i64 nx, Value.int .i64 hp] ++ b16 sa ++ b16 da)).toArray) p12_1_1 (fun W hS => (st_loadN (off := 0) (k := 37) (vs := ([Value.int .i64 cl, Value.int .i64 fw, Value.int .i64 ln, Value.int .i64 nx, Value.int .i64 hp] ++ b16 sa ++ b16 da)) tA27 tS27 rfl hS.1 rfl rfl)) rfl (Rv.dc (v := Value.agg (PA cl fw ln nx hp sa da true mv dn wr fa ins rk num T l.length cT).toArray) p12_1_2 (fun W hS => (st_loadN (off := 0) (k := 73) (vs := (PA cl fw ln nx hp sa da true mv dn wr fa ins rk num T l.length cT)) tA35 tS35 rfl hS.1 rfl rfl)) rfl (Rv.dc (v := Value.func (.func 38) #[Value.agg (PA cl fw ln nx hp sa da true mv dn wr fa ins rk num T l.length cT).toArray] #[]) p12_1_3 (fun W hS => (st_func (first := [Operand.tmp 11]) (captured := []) rfl rfl)) rfl Rv.dn)))) ?_; clear hE a; intro a hE
 refine d_one (by kernel_rfl) rfl (s_alloc p12_1_4 hE wn_none rfl tZ27 ?_)
 clear hE a; intro g5 w6 z7 B_g5 hk a hE
 replace B_g5 : w6.heap[g5]? = some (.cells (([Value.int .i64 0, Value.int .i64 0, Value.int .i64 0, Value.int .i64 0, Value.int .i64 0] ++ b16 (fun _ => 0) ++ b16 (fun _ => 0))).toArray 27 (0, 0)) := B_g5
 have n_g1_g5 : g1 ≠ g5 := ne_new B_g1 z7
 have z_0_g5 := Nat.le_trans K_0.kept.1 z7
 replace B_g1 := kp_blk B_g1 hk (fun h => h)
 replace K_0 := K_0.then_ hk (fun _ h => h.elim)
 clear hk
 refine ⟨⟨B_g1, trivial⟩, ?_⟩
 refine d_one (by kernel_rfl) rfl (s_store (off := 0) (k := 37) (cs' := (([Value.int .i64 cl, Value.int .i64 fw, Value.int .i64 ln, Value.int .i64 nx, Value.int .i64 hp] ++ b16 sa ++ b16 da)).toArray) p12_1_5 hE wn_none tS27 rfl rfl rfl rfl B_g5 (Nat.le_of_ble_eq_true rfl) rfl ?_)
 intro w8 B_g5' hk
 replace B_g1 := kp_blk B_g1 hk n_g1_g5
 replace K_0 := K_0.then_ hk (fun k h => by rw [show k = g5 from h]; exact Or.inr z_0_g5)
 replace B_g5 := B_g5'
 clear hk
 refine ⟨⟨B_g1, trivial⟩, ?_⟩
 refine Rv.dq (v := Value.func (.func 38) #[Value.agg (PA cl fw ln nx hp sa da true mv dn wr fa ins rk num T l.length cT).toArray] #[]) p12_1_6 ns12_1 hE wn_none ⟨B_g1, trivial⟩ (fun W hS => (st_assign rfl)) ?_; clear hE a; intro a hE
 refine d_end (by kernel_rfl) ?_
 refine x_norm (c_reg R12_2_l ?_)
 refine q0 (pl P12_2 0) hE (st_fieldAddr Try.underlying27 rfl tS3 rfl rfl) ?_; clear hE a; intro a hE
 refine p_cons (s_store (off := 3) (k := 1) (cs' := (([Value.int .i64 cl, Value.int .i64 fw, Value.int .i64 ln, Value.int .i64 58, Value.int .i64 hp] ++ b16 sa ++ b16 da)).toArray) (pl P12_2 1) hE wn_none tS3 rfl rfl rfl rfl B_g5 (Nat.le_of_ble_eq_true rfl) rfl ?_)
 intro w9 B_g5' hk
 replace B_g1 := kp_blk B_g1 hk n_g1_g5
 replace K_0 := K_0.then_ hk (fun k h => by rw [show k = g5 from h]; exact Or.inr z_0_g5)
 replace B_g5 := B_g5'
 clear hk
 refine p_nil (x_norm (wp_seq ?_))
 rcases Decidable.em (okO ins rk = true ∧ fitsF 4 [num] = true) with hD | hD
 ·
  rcases Decidable.em (okF cl fw 0 0 hp = true) with hH | hH
  ·
   rcases Decidable.em (1228 < l.length) with hLG | hLG
   ·
    refine c_reg R12_3_l ?_
    refine qn hE (rc (pl P12_3 0) (st_fieldAddr Try.underlying35 rfl tS4 rfl rfl) (rc (pl P12_3 1) (st_load1 tA4 rfl ((blk_cell B_g1 37).trans rfl)) rn)) ?_; clear hE a; intro a hE
    refine p_nil (x_norm ?_)
    refine c_cond (t := true) hE rfl ?_
    refine c_draw (S := fun W => W.heap[g1]? = some (.cells (PA cl fw ln nx hp sa da true mv dn wr fa ins rk num T l.length cT).toArray 35 (0, 0)) ∧ True) rfl rfl (listed := #[false, false, false, false, false]) rfl ?_
    intro w10 hh hk
    replace B_g1 := kp_blk B_g1 hk (fun h => h)
    replace B_g5 := kp_blk B_g5 hk (fun h => h)
    replace K_0 := K_0.then_ hk (fun _ h => h.elim)
    clear hh hk
    refine Rv.dm ns12_4 hE ⟨B_g1, trivial⟩ (Rv.dc (v := Value.agg (PA cl fw ln nx hp sa da true mv dn wr fa ins rk num T l.length cT).toArray) p12_4_0 (fun W hS => (st_loadN (off := 0) (k := 73) (vs := (PA cl fw ln nx hp sa da true mv dn wr fa ins rk num T l.length cT)) tA35 tS35 rfl hS.1 rfl rfl)) rfl (Rv.dc (v := Value.func (.func 39) #[Value.agg (PA cl fw ln nx hp sa da true mv dn wr fa ins rk num T l.length cT).toArray] #[]) p12_4_1 (fun W hS => (st_func (first := [Operand.tmp 16]) (captured := []) rfl rfl)) rfl (Rv.dc (v := Value.pointer (some ⟨g5, 3, none⟩)) p12_4_2 (fun W hS => (st_fieldAddr Try.underlying27 rfl tS3 rfl rfl)) rfl Rv.dn))) ?_; clear hE a; intro a hE
    refine d_one (by kernel_rfl) rfl (s_store (off := 3) (k := 1) (cs' := (([Value.int .i64 cl, Value.int .i64 fw, Value.int .i64 ln, Value.int .i64 0, Value.int .i64 hp] ++ b16 sa ++ b16 da)).toArray) p12_4_3 hE wn_none tS3 rfl rfl rfl rfl B_g5 (Nat.le_of_ble_eq_true rfl) rfl ?_)
    intro w11 B_g5' hk
    replace B_g1 := kp_blk B_g1 hk n_g1_g5
    replace K_0 := K_0.then_ hk (fun k h => by rw [show k = g5 from h]; exact Or.inr z_0_g5)
    replace B_g5 := B_g5'
    clear hk
    refine ⟨⟨B_g1, trivial⟩, ?_⟩
    refine Rv.dq (v := Value.func (.func 39) #[Value.agg (PA cl fw ln nx hp sa da true mv dn wr fa ins rk num T l.length cT).toArray] #[]) p12_4_4 ns12_4 hE wn_none ⟨B_g1, trivial⟩ (fun W hS => (st_assign rfl)) ?_; clear hE a; intro a hE
    refine d_end (by kernel_rfl) ?_
    refine x_norm (c_reg R12_5_l ?_)
    refine q0 (pl P12_5 0) hE (st_move rfl) ?_; clear hE a; intro a hE
    have hnb_g1 := blk_lt B_g1
    have hnb_g5 := blk_lt B_g5
    have hnz_0 := K_0.kept.1
    refine p_cons (s_callv (fst := [Value.agg (PA cl fw ln nx hp sa da true mv dn wr fa ins rk num T l.length cT).toArray]) (cap := []) (xs := []) (args := []) (pl P12_5 1) hE wn_none rfl rfl rfl Try.func39 cl39 (data_ok cl fw ln nx hp sa da mv dn wr fa ins rk num T cT l hD.1 hD.2 _ (fun W' hk => F_T W' (K_0.then_ hk (fun _ h => h.elim))) hml) ?_)
    rintro e w15 ⟨A13, c14, rfl, O_q12, hk⟩
    replace B_g1 := kp_blk B_g1 hk (fun h => h)
    replace B_g5 := kp_blk B_g5 hk (fun h => h)
    replace K_0 := K_0.then_ hk (fun _ h => h.elim)
    have Nb_q12_g1 : ¬ OB A13 g1 := fun h => by have := (own_ob O_q12 h).1; have := hnb_g1; omega
    have Nb_q12_g5 : ¬ OB A13 g5 := fun h => by have := (own_ob O_q12 h).1; have := hnb_g5; omega
    have Z_0_q12 : ∀ k, OB A13 k → (fun _ => False) k ∨ w.heap.size ≤ k := fun k h => .inr (by have := (own_ob O_q12 h).1; have := hnz_0; omega)
    replace O_q12 := own_lower O_q12 hnz_0
    refine ⟨_, rfl, ?_⟩; clear hE a; intro a hE
    refine qn hE (rc (pl P12_5 2) (st_move rfl) (rc (pl P12_5 3) (st_extract rfl rfl) (rc (pl P12_5 4) (st_extract rfl rfl) (rc (pl P12_5 5) (st_assign rfl) (rc (pl P12_5 6) (st_assign rfl) rn))))) ?_; clear hE a; intro a hE
    refine p_nil (x_norm (wp_seq (c_reg R12_6_l ?_)))
    refine qn hE (rc (pl P12_6 0) (st_move rfl) (rc (pl P12_6 1) (st_neq (b := false) rfl rfl (by decide)) rn)) ?_; clear hE a; intro a hE
    refine p_nil (x_norm ?_)
    refine c_cond (t := false) hE rfl ?_
    refine wp_skip (x_norm (c_reg R12_8_l ?_))
    refine qn hE (rc (pl P12_8 0) (st_loadN (off := 0) (k := 37) (vs := ([Value.int .i64 cl, Value.int .i64 fw, Value.int .i64 ln, Value.int .i64 0, Value.int .i64 hp] ++ b16 sa ++ b16 da)) tA27 tS27 rfl B_g5 rfl rfl) (rc (pl P12_8 1) (st_move rfl) rn)) ?_; clear hE a; intro a hE
    refine p_cons (s_row (xs := [(0, Operand.tmp 29)]) (vs := [(0, Value.slice A13 (12 + l.length) c14)]) (cs := #[Value.slice A13 (12 + l.length) c14]) (pl P12_8 2) hE wn_none rfl Try.underlying86 rfl (by kernel_rfl) ?_)
    clear hE a; intro g16 w17 z18 B_g16 hk a hE
    have n_g1_g16 : g1 ≠ g16 := ne_new B_g1 z18
    have n_g5_g16 : g5 ≠ g16 := ne_new B_g5 z18
    have z_0_g16 := Nat.le_trans K_0.kept.1 z18
    have Nb_q12_g16 : ¬ OB A13 g16 := fun h => by have := (own_ob O_q12 h).2; omega
    replace B_g1 := kp_blk B_g1 hk (fun h => h)
    replace B_g5 := kp_blk B_g5 hk (fun h => h)
    replace O_q12 := own_keep O_q12 hk (fun _ _ h => h)
    replace K_0 := K_0.then_ hk (fun _ h => h.elim)
    clear hk
    have hrows := C_rows (e := 5) [(A13, c14, (dataB dn wr fa ins rk num l))] (show w17.heap[g16]? = some (.cells #[.slice A13 (dataB dn wr fa ins rk num l).length c14] _ (0, 0)) by rw [dataB_len]; exact B_g16) rfl (Nat.le_of_ble_eq_true rfl) (by intro r hr; simp only [List.mem_cons, List.not_mem_nil, or_false] at hr; subst hr; exact ⟨by rw [dataB_len]; exact (own_caps O_q12).1, by rw [dataB_len]; exact (own_told O_q12)⟩)
    have hfl : ([dataB dn wr fa ins rk num l] : List (List Int)).flatten = dataB dn wr fa ins rk num l := by simp
    refine p_cons (s_call (xs := [Operand.tmp 28, Operand.tmp 30]) (args := [Value.agg (([Value.int .i64 cl, Value.int .i64 fw, Value.int .i64 ln, Value.int .i64 0, Value.int .i64 hp] ++ b16 sa ++ b16 da)).toArray, Value.slice (some ⟨g16, 0, none⟩) 1 1]) (pl P12_8 3) hE wn_none rfl rfl Try.func40 cl40 (with_long cl fw ln 0 hp sa da (some ⟨g16, 0, none⟩) 1 [dataB dn wr fa ins rk num l] hH (by rw [hfl, dataB_len]; omega) _ hrows (Nat.le_of_ble_eq_true rfl) (by rw [hfl, dataB_len]; omega) (Nat.le_of_ble_eq_true rfl)) ?_)
    rintro e w19 ⟨rfl, hk⟩
    replace B_g1 := kp_blk B_g1 hk (fun h => h)
    replace B_g5 := kp_blk B_g5 hk (fun h => h)
    replace B_g16 := kp_blk B_g16 hk (fun h => h)
    replace O_q12 := own_keep O_q12 hk (fun _ _ h => h)
    replace K_0 := K_0.then_ hk (fun _ h => h.elim)
    refine ⟨_, rfl, ?_⟩; clear hE a; intro a hE
    refine qn hE (rc (pl P12_8 4) (st_move rfl) (rc (pl P12_8 5) (st_extract rfl rfl) (rc (pl P12_8 6) (st_extract rfl rfl) (rc (pl P12_8 7) (st_assign rfl) (rc (pl P12_8 8) (st_assign rfl) rn))))) ?_; clear hE a; intro a hE
    refine p_nil (x_norm (wp_seq (c_reg R12_9_l ?_)))
    refine qn hE (rc (pl P12_9 0) (st_move rfl) (rc (pl P12_9 1) (st_neq (b := true) rfl rfl (by decide)) rn)) ?_; clear hE a; intro a hE
    refine p_nil (x_norm ?_)
    refine c_cond (t := true) hE rfl ?_
    refine c_reg R12_10_l ?_
    refine qn hE (rc (pl P12_10 0) (st_move rfl) (rc (pl P12_10 1) (st_assign rfl) (rc (pl P12_10 2) (st_assign rfl) rn))) ?_; clear hE a; intro a hE
    refine p_nil (x_norm (wp_ret (x_ret ?_)))
    refine ret_list (rs := [.tmp 2, .tmp 3]) (vs := [Value.slice none 0 0, Value.int .i64 2]) rfl hE (.tmp rfl (.tmp rfl .nil)) rfl ?_
    exact h2 2 (by unfold pktE okP; rw [hD.1, hD.2, hH]; show (if 1228 < l.length then (2 : Int) else 0) = 2; rw [if_pos hLG]) (by decide) _ K_0
   ·
    refine c_reg R12_3_l ?_
    refine qn hE (rc (pl P12_3 0) (st_fieldAddr Try.underlying35 rfl tS4 rfl rfl) (rc (pl P12_3 1) (st_load1 tA4 rfl ((blk_cell B_g1 37).trans rfl)) rn)) ?_; clear hE a; intro a hE
    refine p_nil (x_norm ?_)
    refine c_cond (t := true) hE rfl ?_
    refine c_draw (S := fun W => W.heap[g1]? = some (.cells (PA cl fw ln nx hp sa da true mv dn wr fa ins rk num T l.length cT).toArray 35 (0, 0)) ∧ True) rfl rfl (listed := #[false, false, false, false, false]) rfl ?_
    intro w20 hh hk
    replace B_g1 := kp_blk B_g1 hk (fun h => h)
    replace B_g5 := kp_blk B_g5 hk (fun h => h)
    replace K_0 := K_0.then_ hk (fun _ h => h.elim)
    clear hh hk
    refine Rv.dm ns12_4 hE ⟨B_g1, trivial⟩ (Rv.dc (v := Value.agg (PA cl fw ln nx hp sa da true mv dn wr fa ins rk num T l.length cT).toArray) p12_4_0 (fun W hS => (st_loadN (off := 0) (k := 73) (vs := (PA cl fw ln nx hp sa da true mv dn wr fa ins rk num T l.length cT)) tA35 tS35 rfl hS.1 rfl rfl)) rfl (Rv.dc (v := Value.func (.func 39) #[Value.agg (PA cl fw ln nx hp sa da true mv dn wr fa ins rk num T l.length cT).toArray] #[]) p12_4_1 (fun W hS => (st_func (first := [Operand.tmp 16]) (captured := []) rfl rfl)) rfl (Rv.dc (v := Value.pointer (some ⟨g5, 3, none⟩)) p12_4_2 (fun W hS => (st_fieldAddr Try.underlying27 rfl tS3 rfl rfl)) rfl Rv.dn))) ?_; clear hE a; intro a hE
    refine d_one (by kernel_rfl) rfl (s_store (off := 3) (k := 1) (cs' := (([Value.int .i64 cl, Value.int .i64 fw, Value.int .i64 ln, Value.int .i64 0, Value.int .i64 hp] ++ b16 sa ++ b16 da)).toArray) p12_4_3 hE wn_none tS3 rfl rfl rfl rfl B_g5 (Nat.le_of_ble_eq_true rfl) rfl ?_)
    intro w21 B_g5' hk
    replace B_g1 := kp_blk B_g1 hk n_g1_g5
    replace K_0 := K_0.then_ hk (fun k h => by rw [show k = g5 from h]; exact Or.inr z_0_g5)
    replace B_g5 := B_g5'
    clear hk
    refine ⟨⟨B_g1, trivial⟩, ?_⟩
    refine Rv.dq (v := Value.func (.func 39) #[Value.agg (PA cl fw ln nx hp sa da true mv dn wr fa ins rk num T l.length cT).toArray] #[]) p12_4_4 ns12_4 hE wn_none ⟨B_g1, trivial⟩ (fun W hS => (st_assign rfl)) ?_; clear hE a; intro a hE
    refine d_end (by kernel_rfl) ?_
    refine x_norm (c_reg R12_5_l ?_)
    refine q0 (pl P12_5 0) hE (st_move rfl) ?_; clear hE a; intro a hE
    have hnb_g1 := blk_lt B_g1
    have hnb_g5 := blk_lt B_g5
    have hnz_0 := K_0.kept.1
    refine p_cons (s_callv (fst := [Value.agg (PA cl fw ln nx hp sa da true mv dn wr fa ins rk num T l.length cT).toArray]) (cap := []) (xs := []) (args := []) (pl P12_5 1) hE wn_none rfl rfl rfl Try.func39 cl39 (data_ok cl fw ln nx hp sa da mv dn wr fa ins rk num T cT l hD.1 hD.2 _ (fun W' hk => F_T W' (K_0.then_ hk (fun _ h => h.elim))) hml) ?_)
    rintro e w25 ⟨A23, c24, rfl, O_q22, hk⟩
    replace B_g1 := kp_blk B_g1 hk (fun h => h)
    replace B_g5 := kp_blk B_g5 hk (fun h => h)
    replace K_0 := K_0.then_ hk (fun _ h => h.elim)
    have Nb_q22_g1 : ¬ OB A23 g1 := fun h => by have := (own_ob O_q22 h).1; have := hnb_g1; omega
    have Nb_q22_g5 : ¬ OB A23 g5 := fun h => by have := (own_ob O_q22 h).1; have := hnb_g5; omega
    have Z_0_q22 : ∀ k, OB A23 k → (fun _ => False) k ∨ w.heap.size ≤ k := fun k h => .inr (by have := (own_ob O_q22 h).1; have := hnz_0; omega)
    replace O_q22 := own_lower O_q22 hnz_0
    refine ⟨_, rfl, ?_⟩; clear hE a; intro a hE
    refine qn hE (rc (pl P12_5 2) (st_move rfl) (rc (pl P12_5 3) (st_extract rfl rfl) (rc (pl P12_5 4) (st_extract rfl rfl) (rc (pl P12_5 5) (st_assign rfl) (rc (pl P12_5 6) (st_assign rfl) rn))))) ?_; clear hE a; intro a hE
    refine p_nil (x_norm (wp_seq (c_reg R12_6_l ?_)))
    refine qn hE (rc (pl P12_6 0) (st_move rfl) (rc (pl P12_6 1) (st_neq (b := false) rfl rfl (by decide)) rn)) ?_; clear hE a; intro a hE
    refine p_nil (x_norm ?_)
    refine c_cond (t := false) hE rfl ?_
    refine wp_skip (x_norm (c_reg R12_8_l ?_))
    refine qn hE (rc (pl P12_8 0) (st_loadN (off := 0) (k := 37) (vs := ([Value.int .i64 cl, Value.int .i64 fw, Value.int .i64 ln, Value.int .i64 0, Value.int .i64 hp] ++ b16 sa ++ b16 da)) tA27 tS27 rfl B_g5 rfl rfl) (rc (pl P12_8 1) (st_move rfl) rn)) ?_; clear hE a; intro a hE
    refine p_cons (s_row (xs := [(0, Operand.tmp 29)]) (vs := [(0, Value.slice A23 (12 + l.length) c24)]) (cs := #[Value.slice A23 (12 + l.length) c24]) (pl P12_8 2) hE wn_none rfl Try.underlying86 rfl (by kernel_rfl) ?_)
    clear hE a; intro g26 w27 z28 B_g26 hk a hE
    have n_g1_g26 : g1 ≠ g26 := ne_new B_g1 z28
    have n_g5_g26 : g5 ≠ g26 := ne_new B_g5 z28
    have z_0_g26 := Nat.le_trans K_0.kept.1 z28
    have Nb_q22_g26 : ¬ OB A23 g26 := fun h => by have := (own_ob O_q22 h).2; omega
    replace B_g1 := kp_blk B_g1 hk (fun h => h)
    replace B_g5 := kp_blk B_g5 hk (fun h => h)
    replace O_q22 := own_keep O_q22 hk (fun _ _ h => h)
    replace K_0 := K_0.then_ hk (fun _ h => h.elim)
    clear hk
    have hrows := C_rows (e := 5) [(A23, c24, (dataB dn wr fa ins rk num l))] (show w27.heap[g26]? = some (.cells #[.slice A23 (dataB dn wr fa ins rk num l).length c24] _ (0, 0)) by rw [dataB_len]; exact B_g26) rfl (Nat.le_of_ble_eq_true rfl) (by intro r hr; simp only [List.mem_cons, List.not_mem_nil, or_false] at hr; subst hr; exact ⟨by rw [dataB_len]; exact (own_caps O_q22).1, by rw [dataB_len]; exact (own_told O_q22)⟩)
    have hfl : ([dataB dn wr fa ins rk num l] : List (List Int)).flatten = dataB dn wr fa ins rk num l := by simp
    have hres : (encF cl fw (([dataB dn wr fa ins rk num l] : List (List Int)).flatten.length : Int) 0 hp sa da ++ ([dataB dn wr fa ins rk num l] : List (List Int)).flatten) = (encF cl fw (12 + l.length : Nat) 0 hp sa da ++ dataB dn wr fa ins rk num l) := by rw [hfl, dataB_len]
    have hrl : (encF cl fw (12 + l.length : Nat) 0 hp sa da ++ dataB dn wr fa ins rk num l).length = 52 + l.length := by rw [List.length_append, dataB_len]; show 40 + _ = _; omega
    have hct := with_ok cl fw ln 0 hp sa da (some ⟨g26, 0, none⟩) 1 [dataB dn wr fa ins rk num l] hH (by rw [hfl, dataB_len]; omega) w27 hrows (Nat.le_of_ble_eq_true rfl) (by rw [hfl, dataB_len]; omega) (Nat.le_of_ble_eq_true rfl)
    rw [hres, hrl] at hct
    have hnb_g1 := blk_lt B_g1
    have hnb_g5 := blk_lt B_g5
    have hnb_g26 := blk_lt B_g26
    have hnz_0 := K_0.kept.1
    have hno_q22 := fun k (h : OB A23 k) => (own_ob O_q22 h).2
    refine p_cons (s_call (xs := [Operand.tmp 28, Operand.tmp 30]) (args := [Value.agg (([Value.int .i64 cl, Value.int .i64 fw, Value.int .i64 ln, Value.int .i64 0, Value.int .i64 hp] ++ b16 sa ++ b16 da)).toArray, Value.slice (some ⟨g26, 0, none⟩) 1 1]) (pl P12_8 3) hE wn_none rfl rfl Try.func40 cl40 (hct) ?_)
    rintro e w32 ⟨A30, c31, rfl, O_q29, hk⟩
    replace B_g1 := kp_blk B_g1 hk (fun h => h)
    replace B_g5 := kp_blk B_g5 hk (fun h => h)
    replace B_g26 := kp_blk B_g26 hk (fun h => h)
    replace O_q22 := own_keep O_q22 hk (fun _ _ h => h)
    replace K_0 := K_0.then_ hk (fun _ h => h.elim)
    have Nb_q29_g1 : ¬ OB A30 g1 := fun h => by have := (own_ob O_q29 h).1; have := hnb_g1; omega
    have Nb_q29_g5 : ¬ OB A30 g5 := fun h => by have := (own_ob O_q29 h).1; have := hnb_g5; omega
    have Nb_q29_g26 : ¬ OB A30 g26 := fun h => by have := (own_ob O_q29 h).1; have := hnb_g26; omega
    have Z_0_q29 : ∀ k, OB A30 k → (fun _ => False) k ∨ w.heap.size ≤ k := fun k h => .inr (by have := (own_ob O_q29 h).1; have := hnz_0; omega)
    have NN_q29_q22 : ∀ k, OB A30 k → ¬ OB A23 k := fun k h h2 => by have := (own_ob O_q29 h).1; have := hno_q22 k h2; omega
    have NN_q22_q29 : ∀ k, OB A23 k → ¬ OB A30 k := fun k h h2 => NN_q29_q22 k h2 h
    replace O_q29 := own_lower O_q29 hnz_0
    refine ⟨_, rfl, ?_⟩; clear hE a; intro a hE
    refine qn hE (rc (pl P12_8 4) (st_move rfl) (rc (pl P12_8 5) (st_extract rfl rfl) (rc (pl P12_8 6) (st_extract rfl rfl) (rc (pl P12_8 7) (st_assign rfl) (rc (pl P12_8 8) (st_assign rfl) rn))))) ?_; clear hE a; intro a hE
    refine p_nil (x_norm (wp_seq (c_reg R12_9_l ?_)))
    refine qn hE (rc (pl P12_9 0) (st_move rfl) (rc (pl P12_9 1) (st_neq (b := false) rfl rfl (by decide)) rn)) ?_; clear hE a; intro a hE
    refine p_nil (x_norm ?_)
    refine c_cond (t := false) hE rfl ?_
    refine wp_skip (x_norm (c_reg R12_11_l ?_))
    refine qn hE (rc (pl P12_11 0) (st_move rfl) (rc (pl P12_11 1) (st_assign rfl) (rc (pl P12_11 2) (st_assign rfl) rn))) ?_; clear hE a; intro a hE
    refine p_nil (x_norm (wp_ret ?_))
    refine ret_list (rs := [.tmp 2, .tmp 3]) (vs := [Value.slice A30 (52 + l.length) c31, Value.int .i64 0]) rfl hE (.tmp rfl (.tmp rfl .nil)) rfl ?_
    exact h1 (by unfold pktE okP; rw [hD.1, hD.2, hH]; show (if 1228 < l.length then (2 : Int) else 0) = 0; rw [if_neg hLG]) _ _ _ O_q29 K_0
  ·
   have hH9 : okF cl fw 0 0 hp = false := by simpa using hH
   refine c_reg R12_3_l ?_
   refine qn hE (rc (pl P12_3 0) (st_fieldAddr Try.underlying35 rfl tS4 rfl rfl) (rc (pl P12_3 1) (st_load1 tA4 rfl ((blk_cell B_g1 37).trans rfl)) rn)) ?_; clear hE a; intro a hE
   refine p_nil (x_norm ?_)
   refine c_cond (t := true) hE rfl ?_
   refine c_draw (S := fun W => W.heap[g1]? = some (.cells (PA cl fw ln nx hp sa da true mv dn wr fa ins rk num T l.length cT).toArray 35 (0, 0)) ∧ True) rfl rfl (listed := #[false, false, false, false, false]) rfl ?_
   intro w33 hh hk
   replace B_g1 := kp_blk B_g1 hk (fun h => h)
   replace B_g5 := kp_blk B_g5 hk (fun h => h)
   replace K_0 := K_0.then_ hk (fun _ h => h.elim)
   clear hh hk
   refine Rv.dm ns12_4 hE ⟨B_g1, trivial⟩ (Rv.dc (v := Value.agg (PA cl fw ln nx hp sa da true mv dn wr fa ins rk num T l.length cT).toArray) p12_4_0 (fun W hS => (st_loadN (off := 0) (k := 73) (vs := (PA cl fw ln nx hp sa da true mv dn wr fa ins rk num T l.length cT)) tA35 tS35 rfl hS.1 rfl rfl)) rfl (Rv.dc (v := Value.func (.func 39) #[Value.agg (PA cl fw ln nx hp sa da true mv dn wr fa ins rk num T l.length cT).toArray] #[]) p12_4_1 (fun W hS => (st_func (first := [Operand.tmp 16]) (captured := []) rfl rfl)) rfl (Rv.dc (v := Value.pointer (some ⟨g5, 3, none⟩)) p12_4_2 (fun W hS => (st_fieldAddr Try.underlying27 rfl tS3 rfl rfl)) rfl Rv.dn))) ?_; clear hE a; intro a hE
   refine d_one (by kernel_rfl) rfl (s_store (off := 3) (k := 1) (cs' := (([Value.int .i64 cl, Value.int .i64 fw, Value.int .i64 ln, Value.int .i64 0, Value.int .i64 hp] ++ b16 sa ++ b16 da)).toArray) p12_4_3 hE wn_none tS3 rfl rfl rfl rfl B_g5 (Nat.le_of_ble_eq_true rfl) rfl ?_)
   intro w34 B_g5' hk
   replace B_g1 := kp_blk B_g1 hk n_g1_g5
   replace K_0 := K_0.then_ hk (fun k h => by rw [show k = g5 from h]; exact Or.inr z_0_g5)
   replace B_g5 := B_g5'
   clear hk
   refine ⟨⟨B_g1, trivial⟩, ?_⟩
   refine Rv.dq (v := Value.func (.func 39) #[Value.agg (PA cl fw ln nx hp sa da true mv dn wr fa ins rk num T l.length cT).toArray] #[]) p12_4_4 ns12_4 hE wn_none ⟨B_g1, trivial⟩ (fun W hS => (st_assign rfl)) ?_; clear hE a; intro a hE
   refine d_end (by kernel_rfl) ?_
   refine x_norm (c_reg R12_5_l ?_)
   refine q0 (pl P12_5 0) hE (st_move rfl) ?_; clear hE a; intro a hE
   have hnb_g1 := blk_lt B_g1
   have hnb_g5 := blk_lt B_g5
   have hnz_0 := K_0.kept.1
   refine p_cons (s_callv (fst := [Value.agg (PA cl fw ln nx hp sa da true mv dn wr fa ins rk num T l.length cT).toArray]) (cap := []) (xs := []) (args := []) (pl P12_5 1) hE wn_none rfl rfl rfl Try.func39 cl39 (data_ok cl fw ln nx hp sa da mv dn wr fa ins rk num T cT l hD.1 hD.2 _ (fun W' hk => F_T W' (K_0.then_ hk (fun _ h => h.elim))) hml) ?_)
   rintro e w38 ⟨A36, c37, rfl, O_q35, hk⟩
   replace B_g1 := kp_blk B_g1 hk (fun h => h)
   replace B_g5 := kp_blk B_g5 hk (fun h => h)
   replace K_0 := K_0.then_ hk (fun _ h => h.elim)
   have Nb_q35_g1 : ¬ OB A36 g1 := fun h => by have := (own_ob O_q35 h).1; have := hnb_g1; omega
   have Nb_q35_g5 : ¬ OB A36 g5 := fun h => by have := (own_ob O_q35 h).1; have := hnb_g5; omega
   have Z_0_q35 : ∀ k, OB A36 k → (fun _ => False) k ∨ w.heap.size ≤ k := fun k h => .inr (by have := (own_ob O_q35 h).1; have := hnz_0; omega)
   replace O_q35 := own_lower O_q35 hnz_0
   refine ⟨_, rfl, ?_⟩; clear hE a; intro a hE
   refine qn hE (rc (pl P12_5 2) (st_move rfl) (rc (pl P12_5 3) (st_extract rfl rfl) (rc (pl P12_5 4) (st_extract rfl rfl) (rc (pl P12_5 5) (st_assign rfl) (rc (pl P12_5 6) (st_assign rfl) rn))))) ?_; clear hE a; intro a hE
   refine p_nil (x_norm (wp_seq (c_reg R12_6_l ?_)))
   refine qn hE (rc (pl P12_6 0) (st_move rfl) (rc (pl P12_6 1) (st_neq (b := false) rfl rfl (by decide)) rn)) ?_; clear hE a; intro a hE
   refine p_nil (x_norm ?_)
   refine c_cond (t := false) hE rfl ?_
   refine wp_skip (x_norm (c_reg R12_8_l ?_))
   refine qn hE (rc (pl P12_8 0) (st_loadN (off := 0) (k := 37) (vs := ([Value.int .i64 cl, Value.int .i64 fw, Value.int .i64 ln, Value.int .i64 0, Value.int .i64 hp] ++ b16 sa ++ b16 da)) tA27 tS27 rfl B_g5 rfl rfl) (rc (pl P12_8 1) (st_move rfl) rn)) ?_; clear hE a; intro a hE
   refine p_cons (s_row (xs := [(0, Operand.tmp 29)]) (vs := [(0, Value.slice A36 (12 + l.length) c37)]) (cs := #[Value.slice A36 (12 + l.length) c37]) (pl P12_8 2) hE wn_none rfl Try.underlying86 rfl (by kernel_rfl) ?_)
   clear hE a; intro g39 w40 z41 B_g39 hk a hE
   have n_g1_g39 : g1 ≠ g39 := ne_new B_g1 z41
   have n_g5_g39 : g5 ≠ g39 := ne_new B_g5 z41
   have z_0_g39 := Nat.le_trans K_0.kept.1 z41
   have Nb_q35_g39 : ¬ OB A36 g39 := fun h => by have := (own_ob O_q35 h).2; omega
   replace B_g1 := kp_blk B_g1 hk (fun h => h)
   replace B_g5 := kp_blk B_g5 hk (fun h => h)
   replace O_q35 := own_keep O_q35 hk (fun _ _ h => h)
   replace K_0 := K_0.then_ hk (fun _ h => h.elim)
   clear hk
   have hrows := C_rows (e := 5) [(A36, c37, (dataB dn wr fa ins rk num l))] (show w40.heap[g39]? = some (.cells #[.slice A36 (dataB dn wr fa ins rk num l).length c37] _ (0, 0)) by rw [dataB_len]; exact B_g39) rfl (Nat.le_of_ble_eq_true rfl) (by intro r hr; simp only [List.mem_cons, List.not_mem_nil, or_false] at hr; subst hr; exact ⟨by rw [dataB_len]; exact (own_caps O_q35).1, by rw [dataB_len]; exact (own_told O_q35)⟩)
   have hfl : ([dataB dn wr fa ins rk num l] : List (List Int)).flatten = dataB dn wr fa ins rk num l := by simp
   refine p_cons (s_call (xs := [Operand.tmp 28, Operand.tmp 30]) (args := [Value.agg (([Value.int .i64 cl, Value.int .i64 fw, Value.int .i64 ln, Value.int .i64 0, Value.int .i64 hp] ++ b16 sa ++ b16 da)).toArray, Value.slice (some ⟨g39, 0, none⟩) 1 1]) (pl P12_8 3) hE wn_none rfl rfl Try.func40 cl40 (with_bad cl fw ln 0 hp sa da (some ⟨g39, 0, none⟩) 1 [dataB dn wr fa ins rk num l] hH9 _ hrows (Nat.le_of_ble_eq_true rfl) (by rw [hfl, dataB_len]; omega) (Nat.le_of_ble_eq_true rfl)) ?_)
   rintro e w42 ⟨rfl, hk⟩
   replace B_g1 := kp_blk B_g1 hk (fun h => h)
   replace B_g5 := kp_blk B_g5 hk (fun h => h)
   replace B_g39 := kp_blk B_g39 hk (fun h => h)
   replace O_q35 := own_keep O_q35 hk (fun _ _ h => h)
   replace K_0 := K_0.then_ hk (fun _ h => h.elim)
   refine ⟨_, rfl, ?_⟩; clear hE a; intro a hE
   refine qn hE (rc (pl P12_8 4) (st_move rfl) (rc (pl P12_8 5) (st_extract rfl rfl) (rc (pl P12_8 6) (st_extract rfl rfl) (rc (pl P12_8 7) (st_assign rfl) (rc (pl P12_8 8) (st_assign rfl) rn))))) ?_; clear hE a; intro a hE
   refine p_nil (x_norm (wp_seq (c_reg R12_9_l ?_)))
   refine qn hE (rc (pl P12_9 0) (st_move rfl) (rc (pl P12_9 1) (st_neq (b := true) rfl rfl (by decide)) rn)) ?_; clear hE a; intro a hE
   refine p_nil (x_norm ?_)
   refine c_cond (t := true) hE rfl ?_
   refine c_reg R12_10_l ?_
   refine qn hE (rc (pl P12_10 0) (st_move rfl) (rc (pl P12_10 1) (st_assign rfl) (rc (pl P12_10 2) (st_assign rfl) rn))) ?_; clear hE a; intro a hE
   refine p_nil (x_norm (wp_ret (x_ret ?_)))
   refine ret_list (rs := [.tmp 2, .tmp 3]) (vs := [Value.slice none 0 0, Value.int .i64 1]) rfl hE (.tmp rfl (.tmp rfl .nil)) rfl ?_
   exact h2 1 (by unfold pktE okP; rw [hH9]; simp) (by decide) _ K_0
 ·
  have hD9 : (okO ins rk && fitsF 4 [num]) = false := by rw [Bool.eq_false_iff]; intro h; exact hD (by simpa using h)
  refine c_reg R12_3_l ?_
  refine qn hE (rc (pl P12_3 0) (st_fieldAddr Try.underlying35 rfl tS4 rfl rfl) (rc (pl P12_3 1) (st_load1 tA4 rfl ((blk_cell B_g1 37).trans rfl)) rn)) ?_; clear hE a; intro a hE
  refine p_nil (x_norm ?_)
  refine c_cond (t := true) hE rfl ?_
  refine c_draw (S := fun W => W.heap[g1]? = some (.cells (PA cl fw ln nx hp sa da true mv dn wr fa ins rk num T l.length cT).toArray 35 (0, 0)) ∧ True) rfl rfl (listed := #[false, false, false, false, false]) rfl ?_
  intro w43 hh hk
  replace B_g1 := kp_blk B_g1 hk (fun h => h)
  replace B_g5 := kp_blk B_g5 hk (fun h => h)
  replace K_0 := K_0.then_ hk (fun _ h => h.elim)
  clear hh hk
  refine Rv.dm ns12_4 hE ⟨B_g1, trivial⟩ (Rv.dc (v := Value.agg (PA cl fw ln nx hp sa da true mv dn wr fa ins rk num T l.length cT).toArray) p12_4_0 (fun W hS => (st_loadN (off := 0) (k := 73) (vs := (PA cl fw ln nx hp sa da true mv dn wr fa ins rk num T l.length cT)) tA35 tS35 rfl hS.1 rfl rfl)) rfl (Rv.dc (v := Value.func (.func 39) #[Value.agg (PA cl fw ln nx hp sa da true mv dn wr fa ins rk num T l.length cT).toArray] #[]) p12_4_1 (fun W hS => (st_func (first := [Operand.tmp 16]) (captured := []) rfl rfl)) rfl (Rv.dc (v := Value.pointer (some ⟨g5, 3, none⟩)) p12_4_2 (fun W hS => (st_fieldAddr Try.underlying27 rfl tS3 rfl rfl)) rfl Rv.dn))) ?_; clear hE a; intro a hE
  refine d_one (by kernel_rfl) rfl (s_store (off := 3) (k := 1) (cs' := (([Value.int .i64 cl, Value.int .i64 fw, Value.int .i64 ln, Value.int .i64 0, Value.int .i64 hp] ++ b16 sa ++ b16 da)).toArray) p12_4_3 hE wn_none tS3 rfl rfl rfl rfl B_g5 (Nat.le_of_ble_eq_true rfl) rfl ?_)
  intro w44 B_g5' hk
  replace B_g1 := kp_blk B_g1 hk n_g1_g5
  replace K_0 := K_0.then_ hk (fun k h => by rw [show k = g5 from h]; exact Or.inr z_0_g5)
  replace B_g5 := B_g5'
  clear hk
  refine ⟨⟨B_g1, trivial⟩, ?_⟩
  refine Rv.dq (v := Value.func (.func 39) #[Value.agg (PA cl fw ln nx hp sa da true mv dn wr fa ins rk num T l.length cT).toArray] #[]) p12_4_4 ns12_4 hE wn_none ⟨B_g1, trivial⟩ (fun W hS => (st_assign rfl)) ?_; clear hE a; intro a hE
  refine d_end (by kernel_rfl) ?_
  refine x_norm (c_reg R12_5_l ?_)
  refine q0 (pl P12_5 0) hE (st_move rfl) ?_; clear hE a; intro a hE
  refine p_cons (s_callv (fst := [Value.agg (PA cl fw ln nx hp sa da true mv dn wr fa ins rk num T l.length cT).toArray]) (cap := []) (xs := []) (args := []) (pl P12_5 1) hE wn_none rfl rfl rfl Try.func39 cl39 (data_bad cl fw ln nx hp sa da mv dn wr fa ins rk num T cT l hD9 _ (fun W' hk => F_T W' (K_0.then_ hk (fun _ h => h.elim))) hml) ?_)
  rintro e w48 ⟨A45, n46, c47, rfl, hk⟩
  replace B_g1 := kp_blk B_g1 hk (fun h => h)
  replace B_g5 := kp_blk B_g5 hk (fun h => h)
  replace K_0 := K_0.then_ hk (fun _ h => h.elim)
  refine ⟨_, rfl, ?_⟩; clear hE a; intro a hE
  refine qn hE (rc (pl P12_5 2) (st_move rfl) (rc (pl P12_5 3) (st_extract rfl rfl) (rc (pl P12_5 4) (st_extract rfl rfl) (rc (pl P12_5 5) (st_assign rfl) (rc (pl P12_5 6) (st_assign rfl) rn))))) ?_; clear hE a; intro a hE
  refine p_nil (x_norm (wp_seq (c_reg R12_6_l ?_)))
  refine qn hE (rc (pl P12_6 0) (st_move rfl) (rc (pl P12_6 1) (st_neq (b := true) rfl rfl (by decide)) rn)) ?_; clear hE a; intro a hE
  refine p_nil (x_norm ?_)
  refine c_cond (t := true) hE rfl ?_
  refine c_reg R12_7_l ?_
  refine qn hE (rc (pl P12_7 0) (st_move rfl) (rc (pl P12_7 1) (st_assign rfl) (rc (pl P12_7 2) (st_assign rfl) rn))) ?_; clear hE a; intro a hE
  refine p_nil (x_norm (wp_ret (x_ret ?_)))
  refine ret_list (rs := [.tmp 2, .tmp 3]) (vs := [Value.slice none 0 0, Value.int .i64 1]) rfl hE (.tmp rfl (.tmp rfl .nil)) rfl ?_
  exact h2 1 (by unfold pktE okP; rw [hD9]; rfl) (by decide) _ K_0
theorem denc_any (cl fw ln nx hp : Int) (sa da : Nat → Int) (mv : Nat → Value) (dn wr fa : Bool) (ins rk num : Int) (T : Option Addr) (cT : Nat) (l : List Int) (w : World) (F_T : ∀ W', Kp w W' (fun _ => False) → Kd.C (Kd.int .u8) W' T l.length l) (hml : l.length ≤ 900000) : Calls Try.prog 12 #[Value.agg (PA cl fw ln nx hp sa da true mv dn wr fa ins rk num T l.length cT).toArray] w fun e w' => ∃ A n c, e = .returned (.tuple #[.slice A n c, .int .i64 (pktE cl fw hp ins rk num l.length)]) ∧ Kp w w' (fun _ => False) :=
 denc_k cl fw ln nx hp sa da mv dn wr fa ins rk num T cT l w F_T hml (fun h A c w' _ hk => ⟨A, _, c, by rw [h], hk⟩) (fun er h _ w' hk => ⟨none, 0, 0, by rw [h], hk⟩)
theorem R33_0_l : List.range (regOf Try.f33 0).size = [0, 1] := by kernel_rfl
theorem R33_1_l : List.range (regOf Try.f33 1).size = [0, 1, 2, 3, 4, 5, 6] := by kernel_rfl
theorem R33_2_l : List.range (regOf Try.f33 2).size = [0, 1] := by kernel_rfl
theorem body33 : Try.f33.body = some (.seq (.region 0 (regOf Try.f33 0) false) (.seq (.region 1 (regOf Try.f33 1) false) (.seq (.region 2 (regOf Try.f33 2) false) (.ret)))) := by kernel_rfl
theorem P33_0 : (List.range (regOf Try.f33 0).size).map (pj (regOf Try.f33 0)) = [zz 1 (.box 35 (.tmp 0)) 0, zz 2 (.assign (.const (.int .i64 0))) 36] := by kernel_rfl
theorem P33_1 : (List.range (regOf Try.f33 1).size).map (pj (regOf Try.f33 1)) = [zz 6 (.load 35 (.tmp 1)) 35, zz 7 (.call { callee := .value (.func 12), args := #[.tmp 6], argTypes := #[35] }) 60, zz 5 (.move (.tmp 7)) 60, zz 8 (.extract (.tmp 5) 0) 33, zz 9 (.extract (.tmp 5) 1) 36, zz 3 (.assign (.tmp 8)) 33, zz 4 (.assign (.tmp 9)) 36] := by kernel_rfl
theorem cl12 : callable Try.f12 = true := by kernel_rfl
theorem P33_2 : (List.range (regOf Try.f33 2).size).map (pj (regOf Try.f33 2)) = [zz 10 (.move (.tmp 4)) 36, zz 2 (.assign (.tmp 10)) 36] := by kernel_rfl
set_option maxHeartbeats 4000000 in
theorem dchk_any (cl fw ln nx hp : Int) (sa da : Nat → Int) (mv : Nat → Value) (dn wr fa : Bool) (ins rk num : Int) (T : Option Addr) (cT : Nat) (l : List Int) (w : World) (F_T : ∀ W', Kp w W' (fun _ => False) → Kd.C (Kd.int .u8) W' T l.length l) (hml : l.length ≤ 900000) : Calls Try.prog 33 #[Value.agg (PA cl fw ln nx hp sa da true mv dn wr fa ins rk num T l.length cT).toArray] w fun e w' => e = .returned (.int .i64 (pktE cl fw hp ins rk num l.length)) ∧ Kp w w' (fun _ => False) := by
 have K_0 := Kp.refl w (fun _ => False)
 refine enter (args := [Value.agg (PA cl fw ln nx hp sa da true mv dn wr fa ins rk num T l.length cT).toArray]) (n := 11) Try.func33 body33 rfl rfl rfl ?_
 intro a hE
 refine c_reg R33_0_l ?_
 refine p_cons (s_box (pl P33_0 0) hE wn_none rfl rfl ?_)
 clear hE a; intro g1 w2 z3 B_g1 hk a hE
 replace B_g1 : w2.heap[g1]? = some (.cells (PA cl fw ln nx hp sa da true mv dn wr fa ins rk num T l.length cT).toArray 35 (0, 0)) := B_g1
 have z_0_g1 := Nat.le_trans K_0.kept.1 z3
 replace K_0 := K_0.then_ hk (fun _ h => h.elim)
 clear hk
 refine q0 (pl P33_0 1) hE (st_assign rfl) ?_; clear hE a; intro a hE
 refine p_nil (x_norm (c_reg R33_1_l ?_))
 refine q0 (pl P33_1 0) hE (st_loadN (off := 0) (k := 73) (vs := (PA cl fw ln nx hp sa da true mv dn wr fa ins rk num T l.length cT)) tA35 tS35 rfl B_g1 rfl rfl) ?_; clear hE a; intro a hE
 refine p_cons (s_call (xs := [Operand.tmp 6]) (args := [Value.agg (PA cl fw ln nx hp sa da true mv dn wr fa ins rk num T l.length cT).toArray]) (pl P33_1 1) hE wn_none rfl rfl Try.func12 cl12 (denc_any cl fw ln nx hp sa da mv dn wr fa ins rk num T cT l _ (fun W' hk => F_T W' (K_0.then_ hk (fun _ h => h.elim))) hml) ?_)
 rintro e w7 ⟨A4, n5, c6, rfl, hk⟩
 replace B_g1 := kp_blk B_g1 hk (fun h => h)
 replace K_0 := K_0.then_ hk (fun _ h => h.elim)
 refine ⟨_, rfl, ?_⟩; clear hE a; intro a hE
 refine qn hE (rc (pl P33_1 2) (st_move rfl) (rc (pl P33_1 3) (st_extract rfl rfl) (rc (pl P33_1 4) (st_extract rfl rfl) (rc (pl P33_1 5) (st_assign rfl) (rc (pl P33_1 6) (st_assign rfl) rn))))) ?_; clear hE a; intro a hE
 refine p_nil (x_norm (c_reg R33_2_l ?_))
 refine qn hE (rc (pl P33_2 0) (st_move rfl) (rc (pl P33_2 1) (st_assign rfl) rn)) ?_; clear hE a; intro a hE
 refine p_nil (x_norm (wp_ret ?_))
 refine ret_one (v := Value.int .i64 (pktE cl fw hp ins rk num l.length)) rfl hE (.tmp rfl .nil) ?_
 exact ⟨rfl, K_0⟩
theorem node_yes (d : Nat → Int) (hd : ∀ j, 0 ≤ d j ∧ d j ≤ 255) (h0 : 0 ≤ nodeF d) (w : World) : Calls Try.prog 36 #[Value.agg (b16 d).toArray] w fun e w' => e = .returned (.tuple #[.int .i64 (nodeF d), .int .i64 0]) ∧ Kp w w' (fun _ => False) :=
 (node_any d hd w).mono (fun e w' h => h.elim (fun h => h.2) (fun h => by have := h.1; omega))
theorem node_no (d : Nat → Int) (hd : ∀ j, 0 ≤ d j ∧ d j ≤ 255) (h0 : ¬ 0 ≤ nodeF d) (w : World) : Calls Try.prog 36 #[Value.agg (b16 d).toArray] w fun e w' => e = .returned (.tuple #[.int .i64 0, .int .i64 8]) ∧ Kp w w' (fun _ => False) :=
 (node_any d hd w).mono (fun e w' h => h.elim (fun h => absurd h.1 h0) (fun h => h.2))
theorem R9_0_l : List.range (regOf Try.f9 0).size = [0, 1, 2] := by kernel_rfl
theorem R9_1_l : List.range (regOf Try.f9 1).size = [0, 1, 2] := by kernel_rfl
theorem R9_2_l : List.range (regOf Try.f9 2).size = [0, 1] := by kernel_rfl
theorem R9_3_l : List.range (regOf Try.f9 3).size = [0, 1, 2, 3, 4, 5, 6, 7] := by kernel_rfl
theorem body9 : Try.f9.body = some (.seq (.region 0 (regOf Try.f9 0) false) (.seq (.seq (.region 1 (regOf Try.f9 1) false) (.cond (Operand.tmp 6) (.seq (.region 2 (regOf Try.f9 2) false) (.ret)) (.skip))) (.seq (.region 3 (regOf Try.f9 3) false) (.ret)))) := by kernel_rfl
theorem P9_0 : (List.range (regOf Try.f9 0).size).map (pj (regOf Try.f9 0)) = [zz 1 (.box 35 (.tmp 0)) 0, zz 2 (.assign (.const (.int .i64 0))) 3, zz 3 (.assign (.const (.int .i64 0))) 36] := by kernel_rfl
theorem P9_1 : (List.range (regOf Try.f9 1).size).map (pj (regOf Try.f9 1)) = [zz 4 (.fieldAddr 35 (.tmp 1) 1) 0, zz 5 (.load 4 (.tmp 4)) 4, zz 6 (.unOp .not 4 (.tmp 5)) 4] := by kernel_rfl
theorem P9_3 : (List.range (regOf Try.f9 3).size).map (pj (regOf Try.f9 3)) = [zz 7 (.fieldAddr 35 (.tmp 1) 0) 0, zz 8 (.fieldAddr 27 (.tmp 7) 6) 0, zz 9 (.load 25 (.tmp 8)) 25, zz 10 (.call { callee := .value (.func 36), args := #[.tmp 9], argTypes := #[25] }) 47, zz 11 (.extract (.tmp 10) 0) 3, zz 12 (.extract (.tmp 10) 1) 36, zz 2 (.assign (.tmp 11)) 3, zz 3 (.assign (.tmp 12)) 36] := by kernel_rfl
theorem tS25 : (Try.prog.info? 25).map (·.size) = some 16 := by kernel_rfl
theorem tA25 : (Try.prog.underlying 25).map aggD = some true := by kernel_rfl
theorem cl36 : callable Try.f36 = true := by kernel_rfl
set_option maxHeartbeats 4000000 in
theorem targ_y (cl fw ln nx hp : Int) (sa da : Nat → Int) (mv : Nat → Value) (dn wr fa : Bool) (ins rk num : Int) (T : Option Addr) (cT : Nat) (l : List Int) (hda : ∀ j, 0 ≤ da j ∧ da j ≤ 255) (h0 : 0 ≤ nodeF da) (w : World) : Calls Try.prog 9 #[Value.agg (PA cl fw ln nx hp sa da true mv dn wr fa ins rk num T l.length cT).toArray] w fun e w' => e = .returned (.tuple #[.int .i64 (nodeF da), .int .i64 0]) ∧ Kp w w' (fun _ => False) := by
 have K_0 := Kp.refl w (fun _ => False)
 refine enter (args := [Value.agg (PA cl fw ln nx hp sa da true mv dn wr fa ins rk num T l.length cT).toArray]) (n := 13) Try.func9 body9 rfl rfl rfl ?_
 intro a hE
 refine c_reg R9_0_l ?_
 refine p_cons (s_box (pl P9_0 0) hE wn_none rfl rfl ?_)
 clear hE a; intro g1 w2 z3 B_g1 hk a hE
 replace B_g1 : w2.heap[g1]? = some (.cells (PA cl fw ln nx hp sa da true mv dn wr fa ins rk num T l.length cT).toArray 35 (0, 0)) := B_g1
 have z_0_g1 := Nat.le_trans K_0.kept.1 z3
 replace K_0 := K_0.then_ hk (fun _ h => h.elim)
 clear hk
 refine qn hE (rc (pl P9_0 1) (st_assign rfl) (rc (pl P9_0 2) (st_assign rfl) rn)) ?_; clear hE a; intro a hE
 refine p_nil (x_norm (wp_seq (c_reg R9_1_l ?_)))
 refine qn hE (rc (pl P9_1 0) (st_fieldAddr Try.underlying35 rfl tS4 rfl rfl) (rc (pl P9_1 1) (st_load1 tA4 rfl ((blk_cell B_g1 37).trans rfl)) (rc (pl P9_1 2) (st_not rfl rfl) rn))) ?_; clear hE a; intro a hE
 refine p_nil (x_norm ?_)
 refine c_cond (t := false) hE rfl ?_
 refine wp_skip (x_norm (c_reg R9_3_l ?_))
 refine qn hE (rc (pl P9_3 0) (st_fieldAddr Try.underlying35 rfl tS27 rfl rfl) (rc (pl P9_3 1) (st_fieldAddr Try.underlying27 rfl tS25 rfl rfl) (rc (pl P9_3 2) (st_loadN (off := 21) (k := 16) (vs := b16 da) tA25 tS25 rfl B_g1 rfl rfl) rn))) ?_; clear hE a; intro a hE
 refine p_cons (s_call (xs := [Operand.tmp 9]) (args := [Value.agg (b16 da).toArray]) (pl P9_3 3) hE wn_none rfl rfl Try.func36 cl36 (node_yes da hda h0 _) ?_)
 rintro e w4 ⟨rfl, hk⟩
 replace B_g1 := kp_blk B_g1 hk (fun h => h)
 replace K_0 := K_0.then_ hk (fun _ h => h.elim)
 refine ⟨_, rfl, ?_⟩; clear hE a; intro a hE
 refine qn hE (rc (pl P9_3 4) (st_extract rfl rfl) (rc (pl P9_3 5) (st_extract rfl rfl) (rc (pl P9_3 6) (st_assign rfl) (rc (pl P9_3 7) (st_assign rfl) rn)))) ?_; clear hE a; intro a hE
 refine p_nil (x_norm (wp_ret ?_))
 refine ret_list (rs := [.tmp 2, .tmp 3]) (vs := [Value.int .i64 (nodeF da), Value.int .i64 0]) rfl hE (.tmp rfl (.tmp rfl .nil)) rfl ?_
 exact ⟨rfl, K_0⟩

set_option maxHeartbeats 4000000 in
theorem targ_n (cl fw ln nx hp : Int) (sa da : Nat → Int) (mv : Nat → Value) (dn wr fa : Bool) (ins rk num : Int) (T : Option Addr) (cT : Nat) (l : List Int) (hda : ∀ j, 0 ≤ da j ∧ da j ≤ 255) (h0 : ¬ 0 ≤ nodeF da) (w : World) : Calls Try.prog 9 #[Value.agg (PA cl fw ln nx hp sa da true mv dn wr fa ins rk num T l.length cT).toArray] w fun e w' => e = .returned (.tuple #[.int .i64 0, .int .i64 8]) ∧ Kp w w' (fun _ => False) := by
 have K_0 := Kp.refl w (fun _ => False)
 refine enter (args := [Value.agg (PA cl fw ln nx hp sa da true mv dn wr fa ins rk num T l.length cT).toArray]) (n := 13) Try.func9 body9 rfl rfl rfl ?_
 intro a hE
 refine c_reg R9_0_l ?_
 refine p_cons (s_box (pl P9_0 0) hE wn_none rfl rfl ?_)
 clear hE a; intro g1 w2 z3 B_g1 hk a hE
 replace B_g1 : w2.heap[g1]? = some (.cells (PA cl fw ln nx hp sa da true mv dn wr fa ins rk num T l.length cT).toArray 35 (0, 0)) := B_g1
 have z_0_g1 := Nat.le_trans K_0.kept.1 z3
 replace K_0 := K_0.then_ hk (fun _ h => h.elim)
 clear hk
 refine qn hE (rc (pl P9_0 1) (st_assign rfl) (rc (pl P9_0 2) (st_assign rfl) rn)) ?_; clear hE a; intro a hE
 refine p_nil (x_norm (wp_seq (c_reg R9_1_l ?_)))
 refine qn hE (rc (pl P9_1 0) (st_fieldAddr Try.underlying35 rfl tS4 rfl rfl) (rc (pl P9_1 1) (st_load1 tA4 rfl ((blk_cell B_g1 37).trans rfl)) (rc (pl P9_1 2) (st_not rfl rfl) rn))) ?_; clear hE a; intro a hE
 refine p_nil (x_norm ?_)
 refine c_cond (t := false) hE rfl ?_
 refine wp_skip (x_norm (c_reg R9_3_l ?_))
 refine qn hE (rc (pl P9_3 0) (st_fieldAddr Try.underlying35 rfl tS27 rfl rfl) (rc (pl P9_3 1) (st_fieldAddr Try.underlying27 rfl tS25 rfl rfl) (rc (pl P9_3 2) (st_loadN (off := 21) (k := 16) (vs := b16 da) tA25 tS25 rfl B_g1 rfl rfl) rn))) ?_; clear hE a; intro a hE
 refine p_cons (s_call (xs := [Operand.tmp 9]) (args := [Value.agg (b16 da).toArray]) (pl P9_3 3) hE wn_none rfl rfl Try.func36 cl36 (node_no da hda h0 _) ?_)
 rintro e w4 ⟨rfl, hk⟩
 replace B_g1 := kp_blk B_g1 hk (fun h => h)
 replace K_0 := K_0.then_ hk (fun _ h => h.elim)
 refine ⟨_, rfl, ?_⟩; clear hE a; intro a hE
 refine qn hE (rc (pl P9_3 4) (st_extract rfl rfl) (rc (pl P9_3 5) (st_extract rfl rfl) (rc (pl P9_3 6) (st_assign rfl) (rc (pl P9_3 7) (st_assign rfl) rn)))) ?_; clear hE a; intro a hE
 refine p_nil (x_norm (wp_ret ?_))
 refine ret_list (rs := [.tmp 2, .tmp 3]) (vs := [Value.int .i64 0, Value.int .i64 8]) rfl hE (.tmp rfl (.tmp rfl .nil)) rfl ?_
 exact ⟨rfl, K_0⟩
theorem P9_2 : (List.range (regOf Try.f9 2).size).map (pj (regOf Try.f9 2)) = [zz 2 (.assign (.const (.int .i64 0))) 3, zz 3 (.assign (.const (.int .i64 6))) 36] := by kernel_rfl
set_option maxHeartbeats 4000000 in
theorem targ_0 (cl fw ln nx hp : Int) (sa da : Nat → Int) (mv : Nat → Value) (dn wr fa : Bool) (ins rk num : Int) (T : Option Addr) (cT : Nat) (l : List Int) (w : World) : Calls Try.prog 9 #[Value.agg (PA cl fw ln nx hp sa da false mv dn wr fa ins rk num T l.length cT).toArray] w fun e w' => e = .returned (.tuple #[.int .i64 0, .int .i64 6]) ∧ Kp w w' (fun _ => False) := by
 have K_0 := Kp.refl w (fun _ => False)
 refine enter (args := [Value.agg (PA cl fw ln nx hp sa da false mv dn wr fa ins rk num T l.length cT).toArray]) (n := 13) Try.func9 body9 rfl rfl rfl ?_
 intro a hE
 refine c_reg R9_0_l ?_
 refine p_cons (s_box (pl P9_0 0) hE wn_none rfl rfl ?_)
 clear hE a; intro g1 w2 z3 B_g1 hk a hE
 replace B_g1 : w2.heap[g1]? = some (.cells (PA cl fw ln nx hp sa da false mv dn wr fa ins rk num T l.length cT).toArray 35 (0, 0)) := B_g1
 have z_0_g1 := Nat.le_trans K_0.kept.1 z3
 replace K_0 := K_0.then_ hk (fun _ h => h.elim)
 clear hk
 refine qn hE (rc (pl P9_0 1) (st_assign rfl) (rc (pl P9_0 2) (st_assign rfl) rn)) ?_; clear hE a; intro a hE
 refine p_nil (x_norm (wp_seq (c_reg R9_1_l ?_)))
 refine qn hE (rc (pl P9_1 0) (st_fieldAddr Try.underlying35 rfl tS4 rfl rfl) (rc (pl P9_1 1) (st_load1 tA4 rfl ((blk_cell B_g1 37).trans rfl)) (rc (pl P9_1 2) (st_not rfl rfl) rn))) ?_; clear hE a; intro a hE
 refine p_nil (x_norm ?_)
 refine c_cond (t := true) hE rfl ?_
 refine c_reg R9_2_l ?_
 refine qn hE (rc (pl P9_2 0) (st_assign rfl) (rc (pl P9_2 1) (st_assign rfl) rn)) ?_; clear hE a; intro a hE
 refine p_nil (x_norm (wp_ret (x_ret ?_)))
 refine ret_list (rs := [.tmp 2, .tmp 3]) (vs := [Value.int .i64 0, Value.int .i64 6]) rfl hE (.tmp rfl (.tmp rfl .nil)) rfl ?_
 exact ⟨rfl, K_0⟩
theorem R10_0_l : List.range (regOf Try.f10 0).size = [0, 1, 2, 3] := by kernel_rfl
theorem R10_1_l : List.range (regOf Try.f10 1).size = [0, 1, 2, 3, 4, 5] := by kernel_rfl
theorem body10 : Try.f10.body = some (.seq (.region 0 (regOf Try.f10 0) false) (.seq (.region 1 (regOf Try.f10 1) false) (.ret))) := by kernel_rfl
theorem P10_0 : (List.range (regOf Try.f10 0).size).map (pj (regOf Try.f10 0)) = [zz 3 (.box 25 (.tmp 0)) 0, zz 4 (.box 25 (.tmp 1)) 0, zz 5 (.box 30 (.tmp 2)) 0, zz 6 (.alloc 35) 0] := by kernel_rfl
theorem tZ35 : (Try.prog.info? 35).bind (·.zero) = some (Value.agg (([Value.int .i64 0, Value.int .i64 0, Value.int .i64 0, Value.int .i64 0, Value.int .i64 0] ++ b16 (fun _ => 0) ++ b16 (fun _ => 0) ++ [Value.bool false, Value.int .i64 0, Value.int .i64 0, Value.int .i64 0, Value.int .i64 0, Value.int .i64 0, Value.int .i64 0, Value.int .i64 0, Value.int .i64 0, Value.int .i64 0, Value.bool false, Value.bool false] ++ b16 (fun _ => 0) ++ [Value.slice none 0 0, Value.bool false, Value.bool false, Value.bool false, Value.int .i64 0, Value.int .i64 0, Value.int .i64 0, Value.slice none 0 0])).toArray) := by kernel_rfl
theorem P10_1 : (List.range (regOf Try.f10 1).size).map (pj (regOf Try.f10 1)) = [zz 7 (.load 25 (.tmp 3)) 25, zz 8 (.load 25 (.tmp 4)) 25, zz 9 (.build 27 #[(4, .const (.int .i64 255)), (5, .tmp 7), (6, .tmp 8)]) 27, zz 10 (.load 30 (.tmp 5)) 30, zz 11 (.build 35 #[(0, .tmp 9), (2, .tmp 10)]) 35, some (none, .store 35 (.tmp 6) (.tmp 11), 0, none)] := by kernel_rfl
theorem tA30 : (Try.prog.underlying 30).map aggD = some true := by kernel_rfl
theorem tS30 : (Try.prog.info? 30).map (·.size) = some 28 := by kernel_rfl
set_option maxHeartbeats 4000000 in
theorem ctrl_any (sa da : Nat → Int) (mv : Nat → Value) (hmv : ∀ j, (mv j).oneCell' = true) (w : World) : Calls Try.prog 10 #[Value.agg (b16 sa).toArray, Value.agg (b16 da).toArray, Value.agg (rN mv).toArray] w fun e w' => e = .returned (Value.agg (PA 0 0 0 0 255 sa da false mv false false false 0 0 0 none 0 0).toArray) ∧ Kp w w' (fun _ => False) := by
 have K_0 := Kp.refl w (fun _ => False)
 refine enter (args := [Value.agg (b16 sa).toArray, Value.agg (b16 da).toArray, Value.agg (rN mv).toArray]) (n := 12) Try.func10 body10 rfl rfl rfl ?_
 intro a hE
 refine c_reg R10_0_l ?_
 refine p_cons (s_box (pl P10_0 0) hE wn_none rfl rfl ?_)
 clear hE a; intro g1 w2 z3 B_g1 hk a hE
 replace B_g1 : w2.heap[g1]? = some (.cells (b16 sa).toArray 25 (0, 0)) := B_g1
 have z_0_g1 := Nat.le_trans K_0.kept.1 z3
 replace K_0 := K_0.then_ hk (fun _ h => h.elim)
 clear hk
 refine p_cons (s_box (pl P10_0 1) hE wn_none rfl rfl ?_)
 clear hE a; intro g4 w5 z6 B_g4 hk a hE
 replace B_g4 : w5.heap[g4]? = some (.cells (b16 da).toArray 25 (0, 0)) := B_g4
 have n_g1_g4 : g1 ≠ g4 := ne_new B_g1 z6
 have z_0_g4 := Nat.le_trans K_0.kept.1 z6
 replace B_g1 := kp_blk B_g1 hk (fun h => h)
 replace K_0 := K_0.then_ hk (fun _ h => h.elim)
 clear hk
 refine p_cons (s_box (pl P10_0 2) hE wn_none rfl rfl ?_)
 clear hE a; intro g7 w8 z9 B_g7 hk a hE
 replace B_g7 : w8.heap[g7]? = some (.cells (rN mv).toArray 30 (0, 0)) := B_g7
 have n_g1_g7 : g1 ≠ g7 := ne_new B_g1 z9
 have n_g4_g7 : g4 ≠ g7 := ne_new B_g4 z9
 have z_0_g7 := Nat.le_trans K_0.kept.1 z9
 replace B_g1 := kp_blk B_g1 hk (fun h => h)
 replace B_g4 := kp_blk B_g4 hk (fun h => h)
 replace K_0 := K_0.then_ hk (fun _ h => h.elim)
 clear hk
 refine p_cons (s_alloc (pl P10_0 3) hE wn_none rfl tZ35 ?_)
 clear hE a; intro g10 w11 z12 B_g10 hk a hE
 replace B_g10 : w11.heap[g10]? = some (.cells (([Value.int .i64 0, Value.int .i64 0, Value.int .i64 0, Value.int .i64 0, Value.int .i64 0] ++ b16 (fun _ => 0) ++ b16 (fun _ => 0) ++ [Value.bool false, Value.int .i64 0, Value.int .i64 0, Value.int .i64 0, Value.int .i64 0, Value.int .i64 0, Value.int .i64 0, Value.int .i64 0, Value.int .i64 0, Value.int .i64 0, Value.bool false, Value.bool false] ++ b16 (fun _ => 0) ++ [Value.slice none 0 0, Value.bool false, Value.bool false, Value.bool false, Value.int .i64 0, Value.int .i64 0, Value.int .i64 0, Value.slice none 0 0])).toArray 35 (0, 0)) := B_g10
 have n_g1_g10 : g1 ≠ g10 := ne_new B_g1 z12
 have n_g4_g10 : g4 ≠ g10 := ne_new B_g4 z12
 have n_g7_g10 : g7 ≠ g10 := ne_new B_g7 z12
 have z_0_g10 := Nat.le_trans K_0.kept.1 z12
 replace B_g1 := kp_blk B_g1 hk (fun h => h)
 replace B_g4 := kp_blk B_g4 hk (fun h => h)
 replace B_g7 := kp_blk B_g7 hk (fun h => h)
 replace K_0 := K_0.then_ hk (fun _ h => h.elim)
 clear hk
 refine p_nil (x_norm (c_reg R10_1_l ?_))
 refine qn hE (rc (pl P10_1 0) (st_loadN (off := 0) (k := 16) (vs := b16 sa) tA25 tS25 rfl B_g1 rfl rfl) (rc (pl P10_1 1) (st_loadN (off := 0) (k := 16) (vs := b16 da) tA25 tS25 rfl B_g4 rfl rfl) (rc (pl P10_1 2) (st_build (xs := [(4, Operand.const (Value.int IntKind.i64 255)), (5, Operand.tmp 7), (6, Operand.tmp 8)]) (vs := [(4, Value.int .i64 255), (5, Value.agg (b16 sa).toArray), (6, Value.agg (b16 da).toArray)]) (cs := (([Value.int .i64 0, Value.int .i64 0, Value.int .i64 0, Value.int .i64 0, Value.int .i64 255] ++ b16 sa ++ b16 da)).toArray) rfl (by kernel_rfl)) (rc (pl P10_1 3) (st_loadN (off := 0) (k := 28) (vs := rN mv) tA30 tS30 rfl B_g7 rfl rfl) (rc (pl P10_1 4) (st_build (xs := [(0, Operand.tmp 9), (2, Operand.tmp 10)]) (vs := [(0, Value.agg (([Value.int .i64 0, Value.int .i64 0, Value.int .i64 0, Value.int .i64 0, Value.int .i64 255] ++ b16 sa ++ b16 da)).toArray), (2, Value.agg (rN mv).toArray)]) (cs := (PA 0 0 0 0 255 sa da false mv false false false 0 0 0 none 0 0).toArray) rfl (by kernel_rfl)) rn))))) ?_; clear hE a; intro a hE
 refine p_cons (s_store (off := 0) (k := 73) (cs' := (PA 0 0 0 0 255 sa da false mv false false false 0 0 0 none 0 0).toArray) (pl P10_1 5) hE wn_none tS35 rfl rfl rfl (by exact ones_mv (a := ([Value.int .i64 0, Value.int .i64 0, Value.int .i64 0, Value.int .i64 0, Value.int .i64 255] ++ b16 sa ++ b16 da ++ [Value.bool false])) (b := [Value.bool false, Value.bool false, Value.bool false, Value.int .i64 0, Value.int .i64 0, Value.int .i64 0, Value.slice none 0 0]) hmv rfl rfl) B_g10 (Nat.le_of_ble_eq_true rfl) rfl ?_)
 intro w13 B_g10' hk
 replace B_g1 := kp_blk B_g1 hk n_g1_g10
 replace B_g4 := kp_blk B_g4 hk n_g4_g10
 replace B_g7 := kp_blk B_g7 hk n_g7_g10
 replace K_0 := K_0.then_ hk (fun k h => by rw [show k = g10 from h]; exact Or.inr z_0_g10)
 replace B_g10 := B_g10'
 clear hk
 refine p_nil (x_norm (wp_ret ?_))
 refine ret_one (v := Value.agg (PA 0 0 0 0 255 sa da false mv false false false 0 0 0 none 0 0).toArray) rfl hE (.cellN (us := (PA 0 0 0 0 255 sa da false mv false false false 0 0 0 none 0 0)) tA35 tS35 rfl B_g10 rfl .nil) ?_
 exact ⟨rfl, K_0⟩
def zeroM : Nat → Value
 | 0 => Value.int .i64 0
 | 1 => Value.int .i64 0
 | 2 => Value.int .i64 0
 | 3 => Value.int .i64 0
 | 4 => Value.int .i64 0
 | 5 => Value.int .i64 0
 | 6 => Value.int .i64 0
 | 7 => Value.int .i64 0
 | 8 => Value.int .i64 0
 | 9 => Value.bool false
 | 10 => Value.bool false
 | 11 => Value.int .u8 0
 | 12 => Value.int .u8 0
 | 13 => Value.int .u8 0
 | 14 => Value.int .u8 0
 | 15 => Value.int .u8 0
 | 16 => Value.int .u8 0
 | 17 => Value.int .u8 0
 | 18 => Value.int .u8 0
 | 19 => Value.int .u8 0
 | 20 => Value.int .u8 0
 | 21 => Value.int .u8 0
 | 22 => Value.int .u8 0
 | 23 => Value.int .u8 0
 | 24 => Value.int .u8 0
 | 25 => Value.int .u8 0
 | 26 => Value.int .u8 0
 | _ => .slice none 0 0
theorem hzeroM (j : Nat) : (zeroM j).oneCell' = true := by unfold zeroM; split <;> rfl
theorem R32_0_l : List.range (regOf Try.f32 0).size = [0, 1, 2, 3] := by kernel_rfl
theorem body32 : Try.f32.body = some (.seq (.region 0 (regOf Try.f32 0) false) (.seq (.region 1 (regOf Try.f32 1) true) (.ret))) := by kernel_rfl
theorem P32_0 : (List.range (regOf Try.f32 0).size).map (pj (regOf Try.f32 0)) = [zz 5 (.box 25 (.tmp 0)) 0, zz 6 (.box 25 (.tmp 1)) 0, zz 7 (.box 32 (.tmp 2)) 0, zz 10 (.alloc 35) 0] := by kernel_rfl
theorem ns32_1 : Region.noSelect (regOf Try.f32 1) = true := by kernel_rfl
theorem p32_1_0 : pj (regOf Try.f32 1) 0 = some (some 11, .load 25 (.tmp 5), 25, none) := by kernel_rfl
theorem p32_1_1 : pj (regOf Try.f32 1) 1 = some (some 12, .load 25 (.tmp 6), 25, none) := by kernel_rfl
theorem p32_1_2 : pj (regOf Try.f32 1) 2 = some (some 13, .build 27 #[(4, .const (.int .i64 64)), (5, .tmp 11), (6, .tmp 12)], 27, none) := by kernel_rfl
theorem p32_1_3 : pj (regOf Try.f32 1) 3 = some (some 14, .load 32 (.tmp 7), 32, none) := by kernel_rfl
theorem p32_1_4 : pj (regOf Try.f32 1) 4 = some (some 15, .move (.tmp 3), 3, none) := by kernel_rfl
theorem p32_1_5 : pj (regOf Try.f32 1) 5 = some (some 16, .move (.tmp 4), 86, none) := by kernel_rfl
theorem p32_1_6 : pj (regOf Try.f32 1) 6 = some (some 17, .call { callee := .value (.func 70), args := #[.tmp 16], argTypes := #[86] }, 33, none) := by kernel_rfl
theorem cl70 : callable Try.f70 = true := by kernel_rfl
theorem p32_1_7 : pj (regOf Try.f32 1) 7 = some (some 18, .build 35 #[(0, .tmp 13), (1, .const (.bool true)), (3, .tmp 14), (4, .tmp 15), (5, .tmp 17)], 35, none) := by kernel_rfl
theorem p32_1_8 : pj (regOf Try.f32 1) 8 = some (none, .store 35 (.tmp 10) (.tmp 18), 0, none) := by kernel_rfl
set_option maxHeartbeats 4000000 in
theorem send_any (sa da : Nat → Int) (dn wr fa : Bool) (ins rk : Int) (num : Int) (A : Option Addr) (nl cl : Nat) (ls : List (List Int)) (hnl : nl = ls.length) (w : World) (F_L : ∀ W', Kp w W' (fun _ => False) → Kd.C (Kd.slice 5 (Kd.int .u8)) W' A ls.length ls) (hlc : ls.length ≤ cl) (hmf : ls.flatten.length ≤ 1000000) (hmn : ls.length ≤ 1000000) : Calls Try.prog 32 #[Value.agg (b16 sa).toArray, Value.agg (b16 da).toArray, Value.agg #[Value.bool dn, Value.bool wr, Value.bool fa, Value.int .i64 ins, Value.int .i64 rk], .int .i64 num, .slice A nl cl] w fun e w' => ∃ T c, e = .returned (Value.agg (([Value.int .i64 0, Value.int .i64 0, Value.int .i64 0, Value.int .i64 0, Value.int .i64 64] ++ b16 sa ++ b16 da ++ [Value.bool true, Value.int .i64 0, Value.int .i64 0, Value.int .i64 0, Value.int .i64 0, Value.int .i64 0, Value.int .i64 0, Value.int .i64 0, Value.int .i64 0, Value.int .i64 0, Value.bool false, Value.bool false] ++ b16 (fun _ => 0) ++ [Value.slice none 0 0, Value.bool dn, Value.bool wr, Value.bool fa, Value.int .i64 ins, Value.int .i64 rk, Value.int .i64 num, Value.slice T ls.flatten.length c])).toArray) ∧ w'.ownsRow w.heap.size 5 1 (.slice T ls.flatten.length c) ls.flatten.length (encs (Value.int .u8) ls.flatten) ∧ Kp w w' (fun _ => False) := by
 have K_0 := Kp.refl w (fun _ => False)
 refine enter (args := [Value.agg (b16 sa).toArray, Value.agg (b16 da).toArray, Value.agg #[Value.bool dn, Value.bool wr, Value.bool fa, Value.int .i64 ins, Value.int .i64 rk], Value.int .i64 num, Value.slice A nl cl]) (n := 19) Try.func32 body32 rfl rfl rfl ?_
 intro a hE
 refine c_reg R32_0_l ?_
 refine p_cons (s_box (pl P32_0 0) hE wn_none rfl rfl ?_)
 clear hE a; intro g1 w2 z3 B_g1 hk a hE
 replace B_g1 : w2.heap[g1]? = some (.cells (b16 sa).toArray 25 (0, 0)) := B_g1
 have z_0_g1 := Nat.le_trans K_0.kept.1 z3
 replace K_0 := K_0.then_ hk (fun _ h => h.elim)
 clear hk
 refine p_cons (s_box (pl P32_0 1) hE wn_none rfl rfl ?_)
 clear hE a; intro g4 w5 z6 B_g4 hk a hE
 replace B_g4 : w5.heap[g4]? = some (.cells (b16 da).toArray 25 (0, 0)) := B_g4
 have n_g1_g4 : g1 ≠ g4 := ne_new B_g1 z6
 have z_0_g4 := Nat.le_trans K_0.kept.1 z6
 replace B_g1 := kp_blk B_g1 hk (fun h => h)
 replace K_0 := K_0.then_ hk (fun _ h => h.elim)
 clear hk
 refine p_cons (s_box (pl P32_0 2) hE wn_none rfl rfl ?_)
 clear hE a; intro g7 w8 z9 B_g7 hk a hE
 replace B_g7 : w8.heap[g7]? = some (.cells #[Value.bool dn, Value.bool wr, Value.bool fa, Value.int .i64 ins, Value.int .i64 rk] 32 (0, 0)) := B_g7
 have n_g1_g7 : g1 ≠ g7 := ne_new B_g1 z9
 have n_g4_g7 : g4 ≠ g7 := ne_new B_g4 z9
 have z_0_g7 := Nat.le_trans K_0.kept.1 z9
 replace B_g1 := kp_blk B_g1 hk (fun h => h)
 replace B_g4 := kp_blk B_g4 hk (fun h => h)
 replace K_0 := K_0.then_ hk (fun _ h => h.elim)
 clear hk
 refine p_cons (s_alloc (pl P32_0 3) hE wn_none rfl tZ35 ?_)
 clear hE a; intro g10 w11 z12 B_g10 hk a hE
 replace B_g10 : w11.heap[g10]? = some (.cells (([Value.int .i64 0, Value.int .i64 0, Value.int .i64 0, Value.int .i64 0, Value.int .i64 0] ++ b16 (fun _ => 0) ++ b16 (fun _ => 0) ++ [Value.bool false, Value.int .i64 0, Value.int .i64 0, Value.int .i64 0, Value.int .i64 0, Value.int .i64 0, Value.int .i64 0, Value.int .i64 0, Value.int .i64 0, Value.int .i64 0, Value.bool false, Value.bool false] ++ b16 (fun _ => 0) ++ [Value.slice none 0 0, Value.bool false, Value.bool false, Value.bool false, Value.int .i64 0, Value.int .i64 0, Value.int .i64 0, Value.slice none 0 0])).toArray 35 (0, 0)) := B_g10
 have n_g1_g10 : g1 ≠ g10 := ne_new B_g1 z12
 have n_g4_g10 : g4 ≠ g10 := ne_new B_g4 z12
 have n_g7_g10 : g7 ≠ g10 := ne_new B_g7 z12
 have z_0_g10 := Nat.le_trans K_0.kept.1 z12
 replace B_g1 := kp_blk B_g1 hk (fun h => h)
 replace B_g4 := kp_blk B_g4 hk (fun h => h)
 replace B_g7 := kp_blk B_g7 hk (fun h => h)
 replace K_0 := K_0.then_ hk (fun _ h => h.elim)
 clear hk
 refine p_nil (x_norm ?_)
 refine c_drawS (S := fun W => W.heap[g1]? = some (.cells (b16 sa).toArray 25 (0, 0)) ∧ W.heap[g4]? = some (.cells (b16 da).toArray 25 (0, 0)) ∧ W.heap[g7]? = some (.cells #[Value.bool dn, Value.bool wr, Value.bool fa, Value.int .i64 ins, Value.int .i64 rk] 32 (0, 0)) ∧ True) rfl rfl (listed := #[ι, ι, ι, ι, ι, ι, ι, ι, ι]) rfl ?_
 intro w13 hh hk
 replace B_g1 := kp_blk B_g1 hk (fun h => h)
 replace B_g4 := kp_blk B_g4 hk (fun h => h)
 replace B_g7 := kp_blk B_g7 hk (fun h => h)
 replace B_g10 := kp_blk B_g10 hk (fun h => h)
 replace K_0 := K_0.then_ hk (fun _ h => h.elim)
 clear hh hk
 refine Rv.dm ns32_1 hE ⟨B_g1, B_g4, B_g7, trivial⟩ (Rv.dc (v := Value.agg (b16 sa).toArray) p32_1_0 (fun W hS => (st_loadN (off := 0) (k := 16) (vs := b16 sa) tA25 tS25 rfl hS.1 rfl rfl)) rfl (Rv.dc (v := Value.agg (b16 da).toArray) p32_1_1 (fun W hS => (st_loadN (off := 0) (k := 16) (vs := b16 da) tA25 tS25 rfl hS.2.1 rfl rfl)) rfl (Rv.dc (v := Value.agg (([Value.int .i64 0, Value.int .i64 0, Value.int .i64 0, Value.int .i64 0, Value.int .i64 64] ++ b16 sa ++ b16 da)).toArray) p32_1_2 (fun W hS => (st_build (xs := [(4, Operand.const (Value.int IntKind.i64 64)), (5, Operand.tmp 11), (6, Operand.tmp 12)]) (vs := [(4, Value.int .i64 64), (5, Value.agg (b16 sa).toArray), (6, Value.agg (b16 da).toArray)]) (cs := (([Value.int .i64 0, Value.int .i64 0, Value.int .i64 0, Value.int .i64 0, Value.int .i64 64] ++ b16 sa ++ b16 da)).toArray) rfl (by kernel_rfl))) rfl (Rv.dc (v := Value.agg #[Value.bool dn, Value.bool wr, Value.bool fa, Value.int .i64 ins, Value.int .i64 rk]) p32_1_3 (fun W hS => (st_loadN (off := 0) (k := 5) (vs := [Value.bool dn, Value.bool wr, Value.bool fa, Value.int .i64 ins, Value.int .i64 rk]) tA32 tS32 rfl hS.2.2.1 rfl rfl)) rfl (Rv.dc p32_1_4 (fun W hS => (st_move rfl)) rfl (Rv.dc p32_1_5 (fun W hS => (st_move rfl)) rfl Rv.dn)))))) ?_; clear hE a; intro a hE
 have hnb_g1 := blk_lt B_g1
 have hnb_g4 := blk_lt B_g4
 have hnb_g7 := blk_lt B_g7
 have hnb_g10 := blk_lt B_g10
 have hnz_0 := K_0.kept.1
 refine d_one (by kernel_rfl) rfl (s_call (xs := [Operand.tmp 16]) (args := [Value.slice A nl cl]) p32_1_6 hE wn_none rfl rfl Try.func70 cl70 (Go.Proofs.Ytijfocnneccccaa.Cc.concat_any A nl cl ls hnl _ (F_L _ K_0) hlc (Nat.le_trans hmf (by decide)) (Nat.le_trans hmn (by decide))) ?_)
 rintro e w17 ⟨A15, c16, rfl, O_q14, hk⟩
 replace B_g1 := kp_blk B_g1 hk (fun h => h)
 replace B_g4 := kp_blk B_g4 hk (fun h => h)
 replace B_g7 := kp_blk B_g7 hk (fun h => h)
 replace B_g10 := kp_blk B_g10 hk (fun h => h)
 replace K_0 := K_0.then_ hk (fun _ h => h.elim)
 have Nb_q14_g1 : ¬ OB A15 g1 := fun h => by have := (own_ob O_q14 h).1; have := hnb_g1; omega
 have Nb_q14_g4 : ¬ OB A15 g4 := fun h => by have := (own_ob O_q14 h).1; have := hnb_g4; omega
 have Nb_q14_g7 : ¬ OB A15 g7 := fun h => by have := (own_ob O_q14 h).1; have := hnb_g7; omega
 have Nb_q14_g10 : ¬ OB A15 g10 := fun h => by have := (own_ob O_q14 h).1; have := hnb_g10; omega
 have Z_0_q14 : ∀ k, OB A15 k → (fun _ => False) k ∨ w.heap.size ≤ k := fun k h => .inr (by have := (own_ob O_q14 h).1; have := hnz_0; omega)
 replace O_q14 := own_lower O_q14 hnz_0
 refine ⟨_, rfl, ?_⟩; clear hE a; intro a hE
 refine ⟨⟨B_g1, B_g4, B_g7, trivial⟩, ?_⟩
 refine Rv.dq (v := Value.agg (([Value.int .i64 0, Value.int .i64 0, Value.int .i64 0, Value.int .i64 0, Value.int .i64 64] ++ b16 sa ++ b16 da ++ [Value.bool true, Value.int .i64 0, Value.int .i64 0, Value.int .i64 0, Value.int .i64 0, Value.int .i64 0, Value.int .i64 0, Value.int .i64 0, Value.int .i64 0, Value.int .i64 0, Value.bool false, Value.bool false] ++ b16 (fun _ => 0) ++ [Value.slice none 0 0, Value.bool dn, Value.bool wr, Value.bool fa, Value.int .i64 ins, Value.int .i64 rk, Value.int .i64 num, Value.slice A15 ls.flatten.length c16])).toArray) p32_1_7 ns32_1 hE wn_none ⟨B_g1, B_g4, B_g7, trivial⟩ (fun W hS => (st_build (xs := [(0, Operand.tmp 13), (1, Operand.const (Value.bool true)), (3, Operand.tmp 14), (4, Operand.tmp 15), (5, Operand.tmp 17)]) (vs := [(0, Value.agg (([Value.int .i64 0, Value.int .i64 0, Value.int .i64 0, Value.int .i64 0, Value.int .i64 64] ++ b16 sa ++ b16 da)).toArray), (1, Value.bool true), (3, Value.agg #[Value.bool dn, Value.bool wr, Value.bool fa, Value.int .i64 ins, Value.int .i64 rk]), (4, Value.int .i64 num), (5, Value.slice A15 ls.flatten.length c16)]) (cs := (([Value.int .i64 0, Value.int .i64 0, Value.int .i64 0, Value.int .i64 0, Value.int .i64 64] ++ b16 sa ++ b16 da ++ [Value.bool true, Value.int .i64 0, Value.int .i64 0, Value.int .i64 0, Value.int .i64 0, Value.int .i64 0, Value.int .i64 0, Value.int .i64 0, Value.int .i64 0, Value.int .i64 0, Value.bool false, Value.bool false] ++ b16 (fun _ => 0) ++ [Value.slice none 0 0, Value.bool dn, Value.bool wr, Value.bool fa, Value.int .i64 ins, Value.int .i64 rk, Value.int .i64 num, Value.slice A15 ls.flatten.length c16])).toArray) rfl (by kernel_rfl))) ?_; clear hE a; intro a hE
 refine d_one (by kernel_rfl) rfl (s_store (off := 0) (k := 73) (cs' := (([Value.int .i64 0, Value.int .i64 0, Value.int .i64 0, Value.int .i64 0, Value.int .i64 64] ++ b16 sa ++ b16 da ++ [Value.bool true, Value.int .i64 0, Value.int .i64 0, Value.int .i64 0, Value.int .i64 0, Value.int .i64 0, Value.int .i64 0, Value.int .i64 0, Value.int .i64 0, Value.int .i64 0, Value.bool false, Value.bool false] ++ b16 (fun _ => 0) ++ [Value.slice none 0 0, Value.bool dn, Value.bool wr, Value.bool fa, Value.int .i64 ins, Value.int .i64 rk, Value.int .i64 num, Value.slice A15 ls.flatten.length c16])).toArray) p32_1_8 hE wn_none tS35 rfl rfl rfl rfl B_g10 (Nat.le_of_ble_eq_true rfl) rfl ?_)
 intro w18 B_g10' hk
 replace B_g1 := kp_blk B_g1 hk n_g1_g10
 replace B_g4 := kp_blk B_g4 hk n_g4_g10
 replace B_g7 := kp_blk B_g7 hk n_g7_g10
 replace O_q14 := own_keep O_q14 hk (fun k hk2 h2 => Nb_q14_g10 (by rw [show k = g10 from h2] at hk2; exact hk2))
 replace K_0 := K_0.then_ hk (fun k h => by rw [show k = g10 from h]; exact Or.inr z_0_g10)
 replace B_g10 := B_g10'
 clear hk
 refine ⟨⟨B_g1, B_g4, B_g7, trivial⟩, ?_⟩
 refine d_end (by kernel_rfl) ?_
 refine x_norm (wp_ret ?_)
 refine ret_one (v := Value.agg (([Value.int .i64 0, Value.int .i64 0, Value.int .i64 0, Value.int .i64 0, Value.int .i64 64] ++ b16 sa ++ b16 da ++ [Value.bool true, Value.int .i64 0, Value.int .i64 0, Value.int .i64 0, Value.int .i64 0, Value.int .i64 0, Value.int .i64 0, Value.int .i64 0, Value.int .i64 0, Value.int .i64 0, Value.bool false, Value.bool false] ++ b16 (fun _ => 0) ++ [Value.slice none 0 0, Value.bool dn, Value.bool wr, Value.bool fa, Value.int .i64 ins, Value.int .i64 rk, Value.int .i64 num, Value.slice A15 ls.flatten.length c16])).toArray) rfl hE (.cellN (us := ([Value.int .i64 0, Value.int .i64 0, Value.int .i64 0, Value.int .i64 0, Value.int .i64 64] ++ b16 sa ++ b16 da ++ [Value.bool true, Value.int .i64 0, Value.int .i64 0, Value.int .i64 0, Value.int .i64 0, Value.int .i64 0, Value.int .i64 0, Value.int .i64 0, Value.int .i64 0, Value.int .i64 0, Value.bool false, Value.bool false] ++ b16 (fun _ => 0) ++ [Value.slice none 0 0, Value.bool dn, Value.bool wr, Value.bool fa, Value.int .i64 ins, Value.int .i64 rk, Value.int .i64 num, Value.slice A15 ls.flatten.length c16])) tA35 tS35 rfl B_g10 rfl .nil) ?_
 exact ⟨_, _, rfl, O_q14, K_0⟩
end Go.Proofs.Ytijfocnneccccaa.Dg
