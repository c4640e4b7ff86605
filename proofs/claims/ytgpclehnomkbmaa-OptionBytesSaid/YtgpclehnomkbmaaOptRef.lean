/- The document's options: a kind's parts and word, a part's size; numbers' bytes. -/
import Derived.Test.YtgpclehnomkbmaaOptChk
import Derived.Test.YtgpclehnomkbmaaOptWord
set_option maxRecDepth 100000
set_option linter.unusedVariables false
set_option linter.unusedSimpArgs false
namespace Go.Proofs.Ytgpclehnomkbmaa.Orf
open Go.RowKit Go.Proofs.YtgpclehnomkbmaaW.PrintWords Go.Proofs.Ytgpclehnomkbmaa.Ds Go.Proofs.Ytgpclehnomkbmaa.Op Go.Proofs.Ytgpclehnomkbmaa.Ow
open Go.Proofs.Ytgpclehnomkbmaa.Pk (Kp fitsF spanF putF digF)
open Go.Proofs.Ytgpclehnomkbmaa.Oc (numB numOK okJ numB_iff chkF chkO fits_yes fits_no sizes_len flat_int flat_arr)
section
variable {P : Program} {T T1 T2 : TypeId} {m : List (Nat × Value)} {w : World} {X Y : Operand} {k : IntKind}
theorem st_indexS {s : ByteArray} {i : Nat} (hT : P.underlying T1 = some .string) (h1 : ev m X = some (.string s)) (h2 : ev m Y = some (.int k (i : Int))) (hi : i < s.size) : Still P (.index T1 X Y) T m w (.int .u8 (bt s (i : Int))) := fun n a hE o e1 e2 => by
 unfold execOp; rw [e1]
 have hb := bt_at s (i : Int) hi
 simp only [Int.toNat_natCast] at hb
 simp [hE.ev h1, hE.ev h2, Instr.index, asIntOf, run_underlying hT, getElem?_pos, hi, hb]
end
def szF (c : Int) : Int := if c = 49 ∨ c = 112 ∨ c = 122 ∨ c = 120 then 1 else if c = 50 then 2 else if c = 52 ∨ c = 113 then 4 else 0
theorem R58_0_l : List.range (regOf Try.f58 0).size = [0] := by kernel_rfl
theorem R58_1_l : List.range (regOf Try.f58 1).size = [0] := by kernel_rfl
theorem R58_2_l : List.range (regOf Try.f58 2).size = [0, 1] := by kernel_rfl
theorem R58_3_l : List.range (regOf Try.f58 3).size = [0, 1] := by kernel_rfl
theorem R58_4_l : List.range (regOf Try.f58 4).size = [0, 1] := by kernel_rfl
theorem R58_5_l : List.range (regOf Try.f58 5).size = [0, 1] := by kernel_rfl
theorem R58_6_l : List.range (regOf Try.f58 6).size = [0] := by kernel_rfl
theorem R58_7_l : List.range (regOf Try.f58 7).size = [0, 1] := by kernel_rfl
theorem R58_8_l : List.range (regOf Try.f58 8).size = [0] := by kernel_rfl
theorem R58_9_l : List.range (regOf Try.f58 9).size = [0, 1] := by kernel_rfl
theorem R58_10_l : List.range (regOf Try.f58 10).size = [0, 1] := by kernel_rfl
theorem R58_11_l : List.range (regOf Try.f58 11).size = [0] := by kernel_rfl
theorem R58_12_l : List.range (regOf Try.f58 12).size = [0] := by kernel_rfl
theorem body58 : Try.f58.body = some (.seq (.region 0 (regOf Try.f58 0) false) (.seq (.seq (.region 1 (regOf Try.f58 1) false) (.block 0 (.seq (.seq (.region 2 (regOf Try.f58 2) false) (.cond (Operand.tmp 4) (.skip) (.seq (.region 3 (regOf Try.f58 3) false) (.cond (Operand.tmp 4) (.skip) (.seq (.region 4 (regOf Try.f58 4) false) (.cond (Operand.tmp 4) (.skip) (.region 5 (regOf Try.f58 5) false))))))) (.cond (Operand.tmp 4) (.seq (.region 6 (regOf Try.f58 6) false) (.ret)) (.seq (.region 7 (regOf Try.f58 7) false) (.cond (Operand.tmp 9) (.seq (.region 8 (regOf Try.f58 8) false) (.ret)) (.seq (.seq (.region 9 (regOf Try.f58 9) false) (.cond (Operand.tmp 11) (.skip) (.region 10 (regOf Try.f58 10) false))) (.cond (Operand.tmp 11) (.seq (.region 11 (regOf Try.f58 11) false) (.ret)) (.skip))))))))) (.seq (.region 12 (regOf Try.f58 12) false) (.ret)))) := by kernel_rfl
theorem p58_0_0 : pj (regOf Try.f58 0) 0 = some (some 2, .assign (.const (.int .i64 0)), 3, none) := by kernel_rfl
theorem p58_1_0 : pj (regOf Try.f58 1) 0 = some (some 3, .move (.tmp 0), 5, none) := by kernel_rfl
theorem p58_2_0 : pj (regOf Try.f58 2) 0 = some (some 5, .binOp .eql 5 (.tmp 3) (.const (.int .u8 49)) 5, 4, none) := by kernel_rfl
theorem p58_2_1 : pj (regOf Try.f58 2) 1 = some (some 4, .assign (.tmp 5), 4, none) := by kernel_rfl
theorem p58_6_0 : pj (regOf Try.f58 6) 0 = some (some 2, .assign (.const (.int .i64 1)), 3, none) := by kernel_rfl
theorem p58_3_0 : pj (regOf Try.f58 3) 0 = some (some 6, .binOp .eql 5 (.tmp 3) (.const (.int .u8 112)) 5, 4, none) := by kernel_rfl
theorem p58_3_1 : pj (regOf Try.f58 3) 1 = some (some 4, .assign (.tmp 6), 4, none) := by kernel_rfl
theorem p58_4_0 : pj (regOf Try.f58 4) 0 = some (some 7, .binOp .eql 5 (.tmp 3) (.const (.int .u8 122)) 5, 4, none) := by kernel_rfl
theorem p58_4_1 : pj (regOf Try.f58 4) 1 = some (some 4, .assign (.tmp 7), 4, none) := by kernel_rfl
theorem p58_5_0 : pj (regOf Try.f58 5) 0 = some (some 8, .binOp .eql 5 (.tmp 3) (.const (.int .u8 120)) 5, 4, none) := by kernel_rfl
theorem p58_5_1 : pj (regOf Try.f58 5) 1 = some (some 4, .assign (.tmp 8), 4, none) := by kernel_rfl
theorem p58_7_0 : pj (regOf Try.f58 7) 0 = some (some 10, .binOp .eql 5 (.tmp 3) (.const (.int .u8 50)) 5, 4, none) := by kernel_rfl
theorem p58_7_1 : pj (regOf Try.f58 7) 1 = some (some 9, .assign (.tmp 10), 4, none) := by kernel_rfl
theorem p58_8_0 : pj (regOf Try.f58 8) 0 = some (some 2, .assign (.const (.int .i64 2)), 3, none) := by kernel_rfl
theorem p58_9_0 : pj (regOf Try.f58 9) 0 = some (some 12, .binOp .eql 5 (.tmp 3) (.const (.int .u8 52)) 5, 4, none) := by kernel_rfl
theorem p58_9_1 : pj (regOf Try.f58 9) 1 = some (some 11, .assign (.tmp 12), 4, none) := by kernel_rfl
theorem p58_11_0 : pj (regOf Try.f58 11) 0 = some (some 2, .assign (.const (.int .i64 4)), 3, none) := by kernel_rfl
theorem p58_10_0 : pj (regOf Try.f58 10) 0 = some (some 13, .binOp .eql 5 (.tmp 3) (.const (.int .u8 113)) 5, 4, none) := by kernel_rfl
theorem p58_10_1 : pj (regOf Try.f58 10) 1 = some (some 11, .assign (.tmp 13), 4, none) := by kernel_rfl
theorem p58_12_0 : pj (regOf Try.f58 12) 0 = some (some 2, .assign (.const (.int .i64 0)), 3, none) := by kernel_rfl
set_option maxHeartbeats 4000000 in
theorem size_any (x : Int) (w : World) : Calls Try.prog 58 #[.int .u8 x] w fun e w' => e = .returned (.int .i64 (szF x)) ∧ Kp w w' (fun _ => False) := by
 have K_0 := Kp.refl w (fun _ => False)
 refine enter (args := [Value.int .u8 x]) (n := 14) Try.func58 body58 rfl rfl rfl ?_
 intro a hE
 refine c_reg R58_0_l ?_
 refine q0 p58_0_0 hE (st_assign rfl) ?_; clear hE a; intro a hE
 refine p_nil (x_norm (wp_seq (c_reg R58_1_l ?_)))
 refine q0 p58_1_0 hE (st_move rfl) ?_; clear hE a; intro a hE
 refine p_nil (x_norm (wp_block (wp_seq (c_reg R58_2_l ?_))))
 rcases Decidable.em (x = 49) with hc1 | hc1
 ·
  refine p_cons (s_still (v := Value.bool true) p58_2_0 hE wn_none rfl (st_eql rfl rfl (decide_eq_true hc1)) ?_); clear hE a; intro a hE
  refine q0 p58_2_1 hE (st_assign rfl) ?_; clear hE a; intro a hE
  refine p_nil (x_norm ?_)
  refine c_cond (t := true) hE rfl ?_
  refine wp_skip (x_norm ?_)
  refine c_cond (t := true) hE rfl ?_
  refine c_reg R58_6_l ?_
  refine q0 p58_6_0 hE (st_assign rfl) ?_; clear hE a; intro a hE
  refine p_nil (x_norm (wp_ret (x_retB (x_ret ?_))))
  refine ret_one (v := Value.int .i64 1) rfl hE (.tmp rfl .nil) ?_
  exact ⟨by unfold szF; first | rw [if_pos (by omega)] | rw [if_neg (by omega), if_pos (by omega)] | rw [if_neg (by omega), if_neg (by omega), if_pos (by omega)] | rw [if_neg (by omega), if_neg (by omega), if_neg (by omega)], K_0⟩
 ·
  refine p_cons (s_still (v := Value.bool false) p58_2_0 hE wn_none rfl (st_eql rfl rfl (decide_eq_false hc1)) ?_); clear hE a; intro a hE
  refine q0 p58_2_1 hE (st_assign rfl) ?_; clear hE a; intro a hE
  refine p_nil (x_norm ?_)
  refine c_cond (t := false) hE rfl ?_
  refine c_reg R58_3_l ?_
  rcases Decidable.em (x = 112) with hc2 | hc2
  ·
   refine p_cons (s_still (v := Value.bool true) p58_3_0 hE wn_none rfl (st_eql rfl rfl (decide_eq_true hc2)) ?_); clear hE a; intro a hE
   refine q0 p58_3_1 hE (st_assign rfl) ?_; clear hE a; intro a hE
   refine p_nil (x_norm ?_)
   refine c_cond (t := true) hE rfl ?_
   refine wp_skip (x_norm ?_)
   refine c_cond (t := true) hE rfl ?_
   refine c_reg R58_6_l ?_
   refine q0 p58_6_0 hE (st_assign rfl) ?_; clear hE a; intro a hE
   refine p_nil (x_norm (wp_ret (x_retB (x_ret ?_))))
   refine ret_one (v := Value.int .i64 1) rfl hE (.tmp rfl .nil) ?_
   exact ⟨by unfold szF; first | rw [if_pos (by omega)] | rw [if_neg (by omega), if_pos (by omega)] | rw [if_neg (by omega), if_neg (by omega), if_pos (by omega)] | rw [if_neg (by omega), if_neg (by omega), if_neg (by omega)], K_0⟩
  ·
   refine p_cons (s_still (v := Value.bool false) p58_3_0 hE wn_none rfl (st_eql rfl rfl (decide_eq_false hc2)) ?_); clear hE a; intro a hE
   refine q0 p58_3_1 hE (st_assign rfl) ?_; clear hE a; intro a hE
   refine p_nil (x_norm ?_)
   refine c_cond (t := false) hE rfl ?_
   refine c_reg R58_4_l ?_
   rcases Decidable.em (x = 122) with hc3 | hc3
   ·
    refine p_cons (s_still (v := Value.bool true) p58_4_0 hE wn_none rfl (st_eql rfl rfl (decide_eq_true hc3)) ?_); clear hE a; intro a hE
    refine q0 p58_4_1 hE (st_assign rfl) ?_; clear hE a; intro a hE
    refine p_nil (x_norm ?_)
    refine c_cond (t := true) hE rfl ?_
    refine wp_skip (x_norm ?_)
    refine c_cond (t := true) hE rfl ?_
    refine c_reg R58_6_l ?_
    refine q0 p58_6_0 hE (st_assign rfl) ?_; clear hE a; intro a hE
    refine p_nil (x_norm (wp_ret (x_retB (x_ret ?_))))
    refine ret_one (v := Value.int .i64 1) rfl hE (.tmp rfl .nil) ?_
    exact ⟨by unfold szF; first | rw [if_pos (by omega)] | rw [if_neg (by omega), if_pos (by omega)] | rw [if_neg (by omega), if_neg (by omega), if_pos (by omega)] | rw [if_neg (by omega), if_neg (by omega), if_neg (by omega)], K_0⟩
   ·
    refine p_cons (s_still (v := Value.bool false) p58_4_0 hE wn_none rfl (st_eql rfl rfl (decide_eq_false hc3)) ?_); clear hE a; intro a hE
    refine q0 p58_4_1 hE (st_assign rfl) ?_; clear hE a; intro a hE
    refine p_nil (x_norm ?_)
    refine c_cond (t := false) hE rfl ?_
    refine c_regL R58_5_l ?_
    rcases Decidable.em (x = 120) with hc4 | hc4
    ·
     refine p_cons (s_still (v := Value.bool true) p58_5_0 hE wn_none rfl (st_eql rfl rfl (decide_eq_true hc4)) ?_); clear hE a; intro a hE
     refine q0 p58_5_1 hE (st_assign rfl) ?_; clear hE a; intro a hE
     refine p_nil (x_norm ?_)
     refine c_cond (t := true) hE rfl ?_
     refine c_reg R58_6_l ?_
     refine q0 p58_6_0 hE (st_assign rfl) ?_; clear hE a; intro a hE
     refine p_nil (x_norm (wp_ret (x_retB (x_ret ?_))))
     refine ret_one (v := Value.int .i64 1) rfl hE (.tmp rfl .nil) ?_
     exact ⟨by unfold szF; first | rw [if_pos (by omega)] | rw [if_neg (by omega), if_pos (by omega)] | rw [if_neg (by omega), if_neg (by omega), if_pos (by omega)] | rw [if_neg (by omega), if_neg (by omega), if_neg (by omega)], K_0⟩
    ·
     refine p_cons (s_still (v := Value.bool false) p58_5_0 hE wn_none rfl (st_eql rfl rfl (decide_eq_false hc4)) ?_); clear hE a; intro a hE
     refine q0 p58_5_1 hE (st_assign rfl) ?_; clear hE a; intro a hE
     refine p_nil (x_norm ?_)
     refine c_cond (t := false) hE rfl ?_
     refine c_reg R58_7_l ?_
     rcases Decidable.em (x = 50) with hc5 | hc5
     ·
      refine p_cons (s_still (v := Value.bool true) p58_7_0 hE wn_none rfl (st_eql rfl rfl (decide_eq_true hc5)) ?_); clear hE a; intro a hE
      refine q0 p58_7_1 hE (st_assign rfl) ?_; clear hE a; intro a hE
      refine p_nil (x_norm ?_)
      refine c_cond (t := true) hE rfl ?_
      refine c_reg R58_8_l ?_
      refine q0 p58_8_0 hE (st_assign rfl) ?_; clear hE a; intro a hE
      refine p_nil (x_norm (wp_ret (x_retB (x_ret ?_))))
      refine ret_one (v := Value.int .i64 2) rfl hE (.tmp rfl .nil) ?_
      exact ⟨by unfold szF; first | rw [if_pos (by omega)] | rw [if_neg (by omega), if_pos (by omega)] | rw [if_neg (by omega), if_neg (by omega), if_pos (by omega)] | rw [if_neg (by omega), if_neg (by omega), if_neg (by omega)], K_0⟩
     ·
      refine p_cons (s_still (v := Value.bool false) p58_7_0 hE wn_none rfl (st_eql rfl rfl (decide_eq_false hc5)) ?_); clear hE a; intro a hE
      refine q0 p58_7_1 hE (st_assign rfl) ?_; clear hE a; intro a hE
      refine p_nil (x_norm ?_)
      refine c_cond (t := false) hE rfl ?_
      refine wp_seq (c_reg R58_9_l ?_)
      rcases Decidable.em (x = 52) with hc6 | hc6
      ·
       refine p_cons (s_still (v := Value.bool true) p58_9_0 hE wn_none rfl (st_eql rfl rfl (decide_eq_true hc6)) ?_); clear hE a; intro a hE
       refine q0 p58_9_1 hE (st_assign rfl) ?_; clear hE a; intro a hE
       refine p_nil (x_norm ?_)
       refine c_cond (t := true) hE rfl ?_
       refine wp_skip (x_norm ?_)
       refine c_cond (t := true) hE rfl ?_
       refine c_reg R58_11_l ?_
       refine q0 p58_11_0 hE (st_assign rfl) ?_; clear hE a; intro a hE
       refine p_nil (x_norm (wp_ret (x_retB (x_ret ?_))))
       refine ret_one (v := Value.int .i64 4) rfl hE (.tmp rfl .nil) ?_
       exact ⟨by unfold szF; first | rw [if_pos (by omega)] | rw [if_neg (by omega), if_pos (by omega)] | rw [if_neg (by omega), if_neg (by omega), if_pos (by omega)] | rw [if_neg (by omega), if_neg (by omega), if_neg (by omega)], K_0⟩
      ·
       refine p_cons (s_still (v := Value.bool false) p58_9_0 hE wn_none rfl (st_eql rfl rfl (decide_eq_false hc6)) ?_); clear hE a; intro a hE
       refine q0 p58_9_1 hE (st_assign rfl) ?_; clear hE a; intro a hE
       refine p_nil (x_norm ?_)
       refine c_cond (t := false) hE rfl ?_
       refine c_regL R58_10_l ?_
       rcases Decidable.em (x = 113) with hc7 | hc7
       ·
        refine p_cons (s_still (v := Value.bool true) p58_10_0 hE wn_none rfl (st_eql rfl rfl (decide_eq_true hc7)) ?_); clear hE a; intro a hE
        refine q0 p58_10_1 hE (st_assign rfl) ?_; clear hE a; intro a hE
        refine p_nil (x_norm ?_)
        refine c_cond (t := true) hE rfl ?_
        refine c_reg R58_11_l ?_
        refine q0 p58_11_0 hE (st_assign rfl) ?_; clear hE a; intro a hE
        refine p_nil (x_norm (wp_ret (x_retB (x_ret ?_))))
        refine ret_one (v := Value.int .i64 4) rfl hE (.tmp rfl .nil) ?_
        exact ⟨by unfold szF; first | rw [if_pos (by omega)] | rw [if_neg (by omega), if_pos (by omega)] | rw [if_neg (by omega), if_neg (by omega), if_pos (by omega)] | rw [if_neg (by omega), if_neg (by omega), if_neg (by omega)], K_0⟩
       ·
        refine p_cons (s_still (v := Value.bool false) p58_10_0 hE wn_none rfl (st_eql rfl rfl (decide_eq_false hc7)) ?_); clear hE a; intro a hE
        refine q0 p58_10_1 hE (st_assign rfl) ?_; clear hE a; intro a hE
        refine p_nil (x_norm ?_)
        refine c_cond (t := false) hE rfl ?_
        refine wp_skip (x_normB (x_norm (c_reg R58_12_l ?_)))
        refine q0 p58_12_0 hE (st_assign rfl) ?_; clear hE a; intro a hE
        refine p_nil (x_norm (wp_ret ?_))
        refine ret_one (v := Value.int .i64 0) rfl hE (.tmp rfl .nil) ?_
        exact ⟨by unfold szF; first | rw [if_pos (by omega)] | rw [if_neg (by omega), if_pos (by omega)] | rw [if_neg (by omega), if_neg (by omega), if_pos (by omega)] | rw [if_neg (by omega), if_neg (by omega), if_neg (by omega)], K_0⟩
def partsF : Nat → ByteArray
 | 0 => ({ data := #[] } : ByteArray)
 | 1 => ({ data := #[120] } : ByteArray)
 | 2 => ({ data := #[116] } : ByteArray)
 | 3 => ({ data := #[112, 49, 52, 97] } : ByteArray)
 | 4 => ({ data := #[49, 49, 49, 49, 50, 50, 50, 122, 49, 50] } : ByteArray)
 | 5 => ({ data := #[49, 112, 97] } : ByteArray)
 | 6 => ({ data := #[49, 49, 49, 49] } : ByteArray)
 | 7 => ({ data := #[49, 49, 97, 49] } : ByteArray)
 | 8 => ({ data := #[112, 49, 52, 52, 113, 97] } : ByteArray)
 | 9 => ({ data := #[52] } : ByteArray)
 | _ => ({ data := #[63] } : ByteArray)
def partsO (kk : Int) : ByteArray := if 0 ≤ kk ∧ kk ≤ 9 then partsF kk.toNat else ({ data := #[63] } : ByteArray)
theorem parts_at (k : Nat) (hk : k ≤ 9) : (#[.string ({ data := #[] } : ByteArray), .string ({ data := #[120] } : ByteArray), .string ({ data := #[116] } : ByteArray), .string ({ data := #[112, 49, 52, 97] } : ByteArray), .string ({ data := #[49, 49, 49, 49, 50, 50, 50, 122, 49, 50] } : ByteArray), .string ({ data := #[49, 112, 97] } : ByteArray), .string ({ data := #[49, 49, 49, 49] } : ByteArray), .string ({ data := #[49, 49, 97, 49] } : ByteArray), .string ({ data := #[112, 49, 52, 52, 113, 97] } : ByteArray), .string ({ data := #[52] } : ByteArray)] : Array Value)[0 + k]? = some (.string (partsF k)) := by
 match k, hk with
 | 0, _ => rfl
 | 1, _ => rfl
 | 2, _ => rfl
 | 3, _ => rfl
 | 4, _ => rfl
 | 5, _ => rfl
 | 6, _ => rfl
 | 7, _ => rfl
 | 8, _ => rfl
 | 9, _ => rfl
theorem word_at (k : Nat) (hk : k ≤ 9) : (#[.string ({ data := #[112, 97, 100] } : ByteArray), .string ({ data := #[112, 97, 100, 115] } : ByteArray), .string ({ data := #[109, 101, 116, 114, 105, 99] } : ByteArray), .string ({ data := #[114, 111, 117, 116, 101] } : ByteArray), .string ({ data := #[99, 111, 110, 102, 105, 103] } : ByteArray), .string ({ data := #[116, 97, 114, 103, 101, 116] } : ByteArray), .string ({ data := #[116, 114, 97, 110, 115, 105, 116] } : ByteArray), .string ({ data := #[115, 111, 108, 105, 99, 105, 116, 101, 100] } : ByteArray), .string ({ data := #[112, 114, 101, 102, 105, 120] } : ByteArray), .string ({ data := #[100, 101, 115, 99, 114, 105, 112, 116, 111, 114] } : ByteArray)] : Array Value)[0 + k]? = some (.string (wordF k)) := by
 match k, hk with
 | 0, _ => rfl
 | 1, _ => rfl
 | 2, _ => rfl
 | 3, _ => rfl
 | 4, _ => rfl
 | 5, _ => rfl
 | 6, _ => rfl
 | 7, _ => rfl
 | 8, _ => rfl
 | 9, _ => rfl
theorem R53_0_l : List.range (regOf Try.f53 0).size = [0] := by kernel_rfl
theorem R53_1_l : List.range (regOf Try.f53 1).size = [0, 1, 2] := by kernel_rfl
theorem R53_2_l : List.range (regOf Try.f53 2).size = [0, 1, 2, 3, 4, 5] := by kernel_rfl
theorem R53_3_l : List.range (regOf Try.f53 3).size = [0] := by kernel_rfl
theorem R53_4_l : List.range (regOf Try.f53 4).size = [0, 1, 2, 3] := by kernel_rfl
theorem body53 : Try.f53.body = some (.seq (.region 0 (regOf Try.f53 0) false) (.seq (.region 1 (regOf Try.f53 1) false) (.seq (.seq (.region 2 (regOf Try.f53 2) false) (.cond (Operand.tmp 10) (.seq (.region 3 (regOf Try.f53 3) false) (.ret)) (.skip))) (.seq (.region 4 (regOf Try.f53 4) false) (.ret))))) := by kernel_rfl
theorem p53_0_0 : pj (regOf Try.f53 0) 0 = some (some 2, .assign (.const (.string { data := #[] })), 9, none) := by kernel_rfl
theorem p53_1_0 : pj (regOf Try.f53 1) 0 = some (some 4, .build 119 #[(0, .const (.string { data := #[] })), (1, .const (.string { data := #[120] })), (2, .const (.string { data := #[116] })), (3, .const (.string { data := #[112, 49, 52, 97] })), (4, .const (.string { data := #[49, 49, 49, 49, 50, 50, 50, 122, 49, 50] })), (5, .const (.string { data := #[49, 112, 97] })), (6, .const (.string { data := #[49, 49, 49, 49] })), (7, .const (.string { data := #[49, 49, 97, 49] })), (8, .const (.string { data := #[112, 49, 52, 52, 113, 97] })), (9, .const (.string { data := #[52] }))], 119, none) := by kernel_rfl
theorem p53_1_1 : pj (regOf Try.f53 1) 1 = some (some 3, .alloc 119, 0, none) := by kernel_rfl
theorem tZ119 : (Try.prog.info? 119).bind (·.zero) = some (Value.agg #[Value.string ByteArray.empty, Value.string ByteArray.empty, Value.string ByteArray.empty, Value.string ByteArray.empty, Value.string ByteArray.empty, Value.string ByteArray.empty, Value.string ByteArray.empty, Value.string ByteArray.empty, Value.string ByteArray.empty, Value.string ByteArray.empty]) := by kernel_rfl
theorem p53_1_2 : pj (regOf Try.f53 1) 2 = some (none, .store 119 (.tmp 3) (.tmp 4), 0, none) := by kernel_rfl
theorem tS119 : (Try.prog.info? 119).map (·.size) = some 10 := by kernel_rfl
theorem p53_2_0 : pj (regOf Try.f53 2) 0 = some (some 5, .move (.tmp 0), 3, none) := by kernel_rfl
theorem p53_2_1 : pj (regOf Try.f53 2) 1 = some (some 6, .binOp .lss 3 (.tmp 5) (.const (.int .i64 0)) 3, 4, none) := by kernel_rfl
theorem p53_2_2 : pj (regOf Try.f53 2) 2 = some (some 7, .move (.tmp 6), 4, none) := by kernel_rfl
theorem p53_2_3 : pj (regOf Try.f53 2) 3 = some (some 8, .move (.tmp 0), 3, some (2, false)) := by kernel_rfl
theorem g53_2_2 : dstOf (regOf Try.f53 2) 2 = some 7 := by kernel_rfl
theorem p53_2_4 : pj (regOf Try.f53 2) 4 = some (some 9, .binOp .gtr 3 (.tmp 8) (.const (.int .i64 9)) 3, 4, some (2, false)) := by kernel_rfl
theorem p53_2_5 : pj (regOf Try.f53 2) 5 = some (some 10, .pick (.tmp 7) (.const (.bool true)) (.tmp 9), 4, none) := by kernel_rfl
theorem p53_4_0 : pj (regOf Try.f53 4) 0 = some (some 11, .move (.tmp 0), 3, none) := by kernel_rfl
theorem p53_4_1 : pj (regOf Try.f53 4) 1 = some (some 12, .indexAddr 119 (.tmp 3) (.tmp 11), 0, none) := by kernel_rfl
theorem tS9 : (Try.prog.info? 9).map (·.size) = some 1 := by kernel_rfl
theorem p53_4_2 : pj (regOf Try.f53 4) 2 = some (some 13, .load 9 (.tmp 12), 9, none) := by kernel_rfl
theorem tA9 : (Try.prog.underlying 9).map aggD = some false := by kernel_rfl
theorem p53_4_3 : pj (regOf Try.f53 4) 3 = some (some 2, .assign (.tmp 13), 9, none) := by kernel_rfl
theorem p53_3_0 : pj (regOf Try.f53 3) 0 = some (some 2, .assign (.const (.string { data := #[63] })), 9, none) := by kernel_rfl
set_option maxHeartbeats 4000000 in
theorem parts_any (kk : Int) (w : World) : Calls Try.prog 53 #[.int .i64 kk] w fun e w' => e = .returned (.string (partsO kk)) ∧ Kp w w' (fun _ => False) := by
 have K_0 := Kp.refl w (fun _ => False)
 refine enter (args := [Value.int .i64 kk]) (n := 14) Try.func53 body53 rfl rfl rfl ?_
 intro a hE
 refine c_reg R53_0_l ?_
 refine q0 p53_0_0 hE (st_assign rfl) ?_; clear hE a; intro a hE
 refine p_nil (x_norm (c_reg R53_1_l ?_))
 refine q0 p53_1_0 hE (st_build (xs := [(0, Operand.const (Value.string { data := #[] })), (1, Operand.const (Value.string { data := #[120] })), (2, Operand.const (Value.string { data := #[116] })), (3, Operand.const (Value.string { data := #[112, 49, 52, 97] })), (4, Operand.const (Value.string { data := #[49, 49, 49, 49, 50, 50, 50, 122, 49, 50] })), (5, Operand.const (Value.string { data := #[49, 112, 97] })), (6, Operand.const (Value.string { data := #[49, 49, 49, 49] })), (7, Operand.const (Value.string { data := #[49, 49, 97, 49] })), (8, Operand.const (Value.string { data := #[112, 49, 52, 52, 113, 97] })), (9, Operand.const (Value.string { data := #[52] }))]) (vs := [(0, (Value.string { data := #[] })), (1, (Value.string { data := #[120] })), (2, (Value.string { data := #[116] })), (3, (Value.string { data := #[112, 49, 52, 97] })), (4, (Value.string { data := #[49, 49, 49, 49, 50, 50, 50, 122, 49, 50] })), (5, (Value.string { data := #[49, 112, 97] })), (6, (Value.string { data := #[49, 49, 49, 49] })), (7, (Value.string { data := #[49, 49, 97, 49] })), (8, (Value.string { data := #[112, 49, 52, 52, 113, 97] })), (9, (Value.string { data := #[52] }))]) (cs := #[(Value.string { data := #[] }), (Value.string { data := #[120] }), (Value.string { data := #[116] }), (Value.string { data := #[112, 49, 52, 97] }), (Value.string { data := #[49, 49, 49, 49, 50, 50, 50, 122, 49, 50] }), (Value.string { data := #[49, 112, 97] }), (Value.string { data := #[49, 49, 49, 49] }), (Value.string { data := #[49, 49, 97, 49] }), (Value.string { data := #[112, 49, 52, 52, 113, 97] }), (Value.string { data := #[52] })]) rfl (by kernel_rfl)) ?_; clear hE a; intro a hE
 refine p_cons (s_alloc p53_1_1 hE wn_none rfl tZ119 ?_)
 clear hE a; intro g1 w2 z3 B_g1 hk a hE
 replace B_g1 : w2.heap[g1]? = some (.cells #[Value.string ByteArray.empty, Value.string ByteArray.empty, Value.string ByteArray.empty, Value.string ByteArray.empty, Value.string ByteArray.empty, Value.string ByteArray.empty, Value.string ByteArray.empty, Value.string ByteArray.empty, Value.string ByteArray.empty, Value.string ByteArray.empty] 119 (0, 0)) := B_g1
 have z_0_g1 := Nat.le_trans K_0.kept.1 z3
 replace K_0 := K_0.then_ hk (fun _ h => h.elim)
 clear hk
 refine p_cons (s_store (off := 0) (k := 10) (cs' := #[(Value.string { data := #[] }), (Value.string { data := #[120] }), (Value.string { data := #[116] }), (Value.string { data := #[112, 49, 52, 97] }), (Value.string { data := #[49, 49, 49, 49, 50, 50, 50, 122, 49, 50] }), (Value.string { data := #[49, 112, 97] }), (Value.string { data := #[49, 49, 49, 49] }), (Value.string { data := #[49, 49, 97, 49] }), (Value.string { data := #[112, 49, 52, 52, 113, 97] }), (Value.string { data := #[52] })]) p53_1_2 hE wn_none tS119 rfl rfl rfl rfl B_g1 (Nat.le_of_ble_eq_true rfl) rfl ?_)
 intro w4 B_g1' hk
 replace K_0 := K_0.then_ hk (fun k h => by rw [show k = g1 from h]; exact Or.inr z_0_g1)
 replace B_g1 := B_g1'
 clear hk
 refine p_nil (x_norm (wp_seq ?_))
 rcases Decidable.em (0 ≤ kk ∧ kk ≤ 9) with hKN | hKN
 ·
  obtain ⟨k, rfl⟩ : ∃ k : Nat, kk = (k : Int) := ⟨kk.toNat, by omega⟩
  have hk9 : k ≤ 9 := by omega
  refine c_reg R53_2_l ?_
  refine q0 p53_2_0 hE (st_move rfl) ?_; clear hE a; intro a hE
  refine q0 p53_2_1 hE (st_lss (b := false) rfl rfl (decide_eq_false (by omega))) ?_; clear hE a; intro a hE
  refine q0 p53_2_2 hE (st_move rfl) ?_; clear hE a; intro a hE
  refine p_cons (s_still p53_2_3 hE (wn_some g53_2_2 rfl rfl) rfl (st_move rfl) ?_); clear hE a; intro a hE
  refine p_cons (s_still p53_2_4 hE (wn_some g53_2_2 rfl rfl) rfl (st_gtr (b := false) rfl rfl (decide_eq_false (by omega))) ?_); clear hE a; intro a hE
  refine q0 p53_2_5 hE (st_pick rfl rfl) ?_; clear hE a; intro a hE
  refine p_nil (x_norm ?_)
  refine c_cond (t := false) hE rfl ?_
  refine wp_skip (x_norm (c_reg R53_4_l ?_))
  refine q0 p53_4_0 hE (st_move rfl) ?_; clear hE a; intro a hE
  refine q0 p53_4_1 hE (st_indexAddrA (l := 10) (i := k) (off := 0) (o' := 0 + k) Try.underlying119 tS9 rfl rfl (by omega) (by omega)) ?_; clear hE a; intro a hE
  refine q0 p53_4_2 hE (st_load1 tA9 rfl ((blk_cell B_g1 _).trans (parts_at k hk9))) ?_; clear hE a; intro a hE
  refine q0 p53_4_3 hE (st_assign rfl) ?_; clear hE a; intro a hE
  refine p_nil (x_norm (wp_ret ?_))
  refine ret_one (v := Value.string (partsF k)) rfl hE (.tmp rfl .nil) ?_
  exact ⟨by unfold partsO; rw [if_pos ⟨by omega, by omega⟩] <;> rfl, K_0⟩
 ·
  refine c_reg R53_2_l ?_
  refine q0 p53_2_0 hE (st_move rfl) ?_; clear hE a; intro a hE
  rcases Decidable.em (kk < 0) with hc5 | hc5
  ·
   refine p_cons (s_still (v := Value.bool true) p53_2_1 hE wn_none rfl (st_lss rfl rfl (decide_eq_true hc5)) ?_); clear hE a; intro a hE
   refine q0 p53_2_2 hE (st_move rfl) ?_; clear hE a; intro a hE
   refine p_cons (s_skip p53_2_3 hE (wn_some g53_2_2 rfl rfl) rfl ?_); clear hE a; intro a hE
   refine p_cons (s_skip p53_2_4 hE (wn_some g53_2_2 rfl rfl) rfl ?_); clear hE a; intro a hE
   refine q0 p53_2_5 hE (st_pick rfl rfl) ?_; clear hE a; intro a hE
   refine p_nil (x_norm ?_)
   refine c_cond (t := true) hE rfl ?_
   refine c_reg R53_3_l ?_
   refine q0 p53_3_0 hE (st_assign rfl) ?_; clear hE a; intro a hE
   refine p_nil (x_norm (wp_ret (x_ret ?_)))
   refine ret_one (v := (Value.string { data := #[63] })) rfl hE (.tmp rfl .nil) ?_
   exact ⟨by unfold partsO; rw [if_neg (by omega)] <;> rfl, K_0⟩
  ·
   refine p_cons (s_still (v := Value.bool false) p53_2_1 hE wn_none rfl (st_lss rfl rfl (decide_eq_false hc5)) ?_); clear hE a; intro a hE
   refine q0 p53_2_2 hE (st_move rfl) ?_; clear hE a; intro a hE
   refine p_cons (s_still p53_2_3 hE (wn_some g53_2_2 rfl rfl) rfl (st_move rfl) ?_); clear hE a; intro a hE
   refine p_cons (s_still p53_2_4 hE (wn_some g53_2_2 rfl rfl) rfl (st_gtr (b := true) rfl rfl (decide_eq_true (by omega))) ?_); clear hE a; intro a hE
   refine q0 p53_2_5 hE (st_pick rfl rfl) ?_; clear hE a; intro a hE
   refine p_nil (x_norm ?_)
   refine c_cond (t := true) hE rfl ?_
   refine c_reg R53_3_l ?_
   refine q0 p53_3_0 hE (st_assign rfl) ?_; clear hE a; intro a hE
   refine p_nil (x_norm (wp_ret (x_ret ?_)))
   refine ret_one (v := (Value.string { data := #[63] })) rfl hE (.tmp rfl .nil) ?_
   exact ⟨by unfold partsO; rw [if_neg (by omega)] <;> rfl, K_0⟩
theorem R19_0_l : List.range (regOf Try.f19 0).size = [0] := by kernel_rfl
theorem R19_1_l : List.range (regOf Try.f19 1).size = [0, 1, 2] := by kernel_rfl
theorem R19_2_l : List.range (regOf Try.f19 2).size = [0, 1, 2, 3, 4, 5] := by kernel_rfl
theorem R19_3_l : List.range (regOf Try.f19 3).size = [0] := by kernel_rfl
theorem R19_4_l : List.range (regOf Try.f19 4).size = [0, 1, 2, 3] := by kernel_rfl
theorem body19 : Try.f19.body = some (.seq (.region 0 (regOf Try.f19 0) false) (.seq (.region 1 (regOf Try.f19 1) false) (.seq (.seq (.region 2 (regOf Try.f19 2) false) (.cond (Operand.tmp 10) (.seq (.region 3 (regOf Try.f19 3) false) (.ret)) (.skip))) (.seq (.region 4 (regOf Try.f19 4) false) (.ret))))) := by kernel_rfl
theorem p19_0_0 : pj (regOf Try.f19 0) 0 = some (some 2, .assign (.const (.string { data := #[] })), 9, none) := by kernel_rfl
theorem p19_1_0 : pj (regOf Try.f19 1) 0 = some (some 4, .build 119 #[(0, .const (.string { data := #[112, 97, 100] })), (1, .const (.string { data := #[112, 97, 100, 115] })), (2, .const (.string { data := #[109, 101, 116, 114, 105, 99] })), (3, .const (.string { data := #[114, 111, 117, 116, 101] })), (4, .const (.string { data := #[99, 111, 110, 102, 105, 103] })), (5, .const (.string { data := #[116, 97, 114, 103, 101, 116] })), (6, .const (.string { data := #[116, 114, 97, 110, 115, 105, 116] })), (7, .const (.string { data := #[115, 111, 108, 105, 99, 105, 116, 101, 100] })), (8, .const (.string { data := #[112, 114, 101, 102, 105, 120] })), (9, .const (.string { data := #[100, 101, 115, 99, 114, 105, 112, 116, 111, 114] }))], 119, none) := by kernel_rfl
theorem p19_1_1 : pj (regOf Try.f19 1) 1 = some (some 3, .alloc 119, 0, none) := by kernel_rfl
theorem p19_1_2 : pj (regOf Try.f19 1) 2 = some (none, .store 119 (.tmp 3) (.tmp 4), 0, none) := by kernel_rfl
theorem p19_2_0 : pj (regOf Try.f19 2) 0 = some (some 5, .move (.tmp 0), 3, none) := by kernel_rfl
theorem p19_2_1 : pj (regOf Try.f19 2) 1 = some (some 6, .binOp .lss 3 (.tmp 5) (.const (.int .i64 0)) 3, 4, none) := by kernel_rfl
theorem p19_2_2 : pj (regOf Try.f19 2) 2 = some (some 7, .move (.tmp 6), 4, none) := by kernel_rfl
theorem p19_2_3 : pj (regOf Try.f19 2) 3 = some (some 8, .move (.tmp 0), 3, some (2, false)) := by kernel_rfl
theorem g19_2_2 : dstOf (regOf Try.f19 2) 2 = some 7 := by kernel_rfl
theorem p19_2_4 : pj (regOf Try.f19 2) 4 = some (some 9, .binOp .gtr 3 (.tmp 8) (.const (.int .i64 9)) 3, 4, some (2, false)) := by kernel_rfl
theorem p19_2_5 : pj (regOf Try.f19 2) 5 = some (some 10, .pick (.tmp 7) (.const (.bool true)) (.tmp 9), 4, none) := by kernel_rfl
theorem p19_4_0 : pj (regOf Try.f19 4) 0 = some (some 11, .move (.tmp 0), 3, none) := by kernel_rfl
theorem p19_4_1 : pj (regOf Try.f19 4) 1 = some (some 12, .indexAddr 119 (.tmp 3) (.tmp 11), 0, none) := by kernel_rfl
theorem p19_4_2 : pj (regOf Try.f19 4) 2 = some (some 13, .load 9 (.tmp 12), 9, none) := by kernel_rfl
theorem p19_4_3 : pj (regOf Try.f19 4) 3 = some (some 2, .assign (.tmp 13), 9, none) := by kernel_rfl
theorem p19_3_0 : pj (regOf Try.f19 3) 0 = some (some 2, .assign (.const (.string { data := #[] })), 9, none) := by kernel_rfl
set_option maxHeartbeats 4000000 in
theorem rword_any (kk : Int) (w : World) : Calls Try.prog 19 #[.int .i64 kk] w fun e w' => e = .returned (.string (wordO kk)) ∧ Kp w w' (fun _ => False) := by
 have K_0 := Kp.refl w (fun _ => False)
 refine enter (args := [Value.int .i64 kk]) (n := 14) Try.func19 body19 rfl rfl rfl ?_
 intro a hE
 refine c_reg R19_0_l ?_
 refine q0 p19_0_0 hE (st_assign rfl) ?_; clear hE a; intro a hE
 refine p_nil (x_norm (c_reg R19_1_l ?_))
 refine q0 p19_1_0 hE (st_build (xs := [(0, Operand.const (Value.string { data := #[112, 97, 100] })), (1, Operand.const (Value.string { data := #[112, 97, 100, 115] })), (2, Operand.const (Value.string { data := #[109, 101, 116, 114, 105, 99] })), (3, Operand.const (Value.string { data := #[114, 111, 117, 116, 101] })), (4, Operand.const (Value.string { data := #[99, 111, 110, 102, 105, 103] })), (5, Operand.const (Value.string { data := #[116, 97, 114, 103, 101, 116] })), (6, Operand.const (Value.string { data := #[116, 114, 97, 110, 115, 105, 116] })), (7, Operand.const (Value.string { data := #[115, 111, 108, 105, 99, 105, 116, 101, 100] })), (8, Operand.const (Value.string { data := #[112, 114, 101, 102, 105, 120] })), (9, Operand.const (Value.string { data := #[100, 101, 115, 99, 114, 105, 112, 116, 111, 114] }))]) (vs := [(0, (Value.string { data := #[112, 97, 100] })), (1, (Value.string { data := #[112, 97, 100, 115] })), (2, (Value.string { data := #[109, 101, 116, 114, 105, 99] })), (3, (Value.string { data := #[114, 111, 117, 116, 101] })), (4, (Value.string { data := #[99, 111, 110, 102, 105, 103] })), (5, (Value.string { data := #[116, 97, 114, 103, 101, 116] })), (6, (Value.string { data := #[116, 114, 97, 110, 115, 105, 116] })), (7, (Value.string { data := #[115, 111, 108, 105, 99, 105, 116, 101, 100] })), (8, (Value.string { data := #[112, 114, 101, 102, 105, 120] })), (9, (Value.string { data := #[100, 101, 115, 99, 114, 105, 112, 116, 111, 114] }))]) (cs := #[(Value.string { data := #[112, 97, 100] }), (Value.string { data := #[112, 97, 100, 115] }), (Value.string { data := #[109, 101, 116, 114, 105, 99] }), (Value.string { data := #[114, 111, 117, 116, 101] }), (Value.string { data := #[99, 111, 110, 102, 105, 103] }), (Value.string { data := #[116, 97, 114, 103, 101, 116] }), (Value.string { data := #[116, 114, 97, 110, 115, 105, 116] }), (Value.string { data := #[115, 111, 108, 105, 99, 105, 116, 101, 100] }), (Value.string { data := #[112, 114, 101, 102, 105, 120] }), (Value.string { data := #[100, 101, 115, 99, 114, 105, 112, 116, 111, 114] })]) rfl (by kernel_rfl)) ?_; clear hE a; intro a hE
 refine p_cons (s_alloc p19_1_1 hE wn_none rfl tZ119 ?_)
 clear hE a; intro g1 w2 z3 B_g1 hk a hE
 replace B_g1 : w2.heap[g1]? = some (.cells #[Value.string ByteArray.empty, Value.string ByteArray.empty, Value.string ByteArray.empty, Value.string ByteArray.empty, Value.string ByteArray.empty, Value.string ByteArray.empty, Value.string ByteArray.empty, Value.string ByteArray.empty, Value.string ByteArray.empty, Value.string ByteArray.empty] 119 (0, 0)) := B_g1
 have z_0_g1 := Nat.le_trans K_0.kept.1 z3
 replace K_0 := K_0.then_ hk (fun _ h => h.elim)
 clear hk
 refine p_cons (s_store (off := 0) (k := 10) (cs' := #[(Value.string { data := #[112, 97, 100] }), (Value.string { data := #[112, 97, 100, 115] }), (Value.string { data := #[109, 101, 116, 114, 105, 99] }), (Value.string { data := #[114, 111, 117, 116, 101] }), (Value.string { data := #[99, 111, 110, 102, 105, 103] }), (Value.string { data := #[116, 97, 114, 103, 101, 116] }), (Value.string { data := #[116, 114, 97, 110, 115, 105, 116] }), (Value.string { data := #[115, 111, 108, 105, 99, 105, 116, 101, 100] }), (Value.string { data := #[112, 114, 101, 102, 105, 120] }), (Value.string { data := #[100, 101, 115, 99, 114, 105, 112, 116, 111, 114] })]) p19_1_2 hE wn_none tS119 rfl rfl rfl rfl B_g1 (Nat.le_of_ble_eq_true rfl) rfl ?_)
 intro w4 B_g1' hk
 replace K_0 := K_0.then_ hk (fun k h => by rw [show k = g1 from h]; exact Or.inr z_0_g1)
 replace B_g1 := B_g1'
 clear hk
 refine p_nil (x_norm (wp_seq ?_))
 rcases Decidable.em (0 ≤ kk ∧ kk ≤ 9) with hKN | hKN
 ·
  obtain ⟨k, rfl⟩ : ∃ k : Nat, kk = (k : Int) := ⟨kk.toNat, by omega⟩
  have hk9 : k ≤ 9 := by omega
  refine c_reg R19_2_l ?_
  refine q0 p19_2_0 hE (st_move rfl) ?_; clear hE a; intro a hE
  refine q0 p19_2_1 hE (st_lss (b := false) rfl rfl (decide_eq_false (by omega))) ?_; clear hE a; intro a hE
  refine q0 p19_2_2 hE (st_move rfl) ?_; clear hE a; intro a hE
  refine p_cons (s_still p19_2_3 hE (wn_some g19_2_2 rfl rfl) rfl (st_move rfl) ?_); clear hE a; intro a hE
  refine p_cons (s_still p19_2_4 hE (wn_some g19_2_2 rfl rfl) rfl (st_gtr (b := false) rfl rfl (decide_eq_false (by omega))) ?_); clear hE a; intro a hE
  refine q0 p19_2_5 hE (st_pick rfl rfl) ?_; clear hE a; intro a hE
  refine p_nil (x_norm ?_)
  refine c_cond (t := false) hE rfl ?_
  refine wp_skip (x_norm (c_reg R19_4_l ?_))
  refine q0 p19_4_0 hE (st_move rfl) ?_; clear hE a; intro a hE
  refine q0 p19_4_1 hE (st_indexAddrA (l := 10) (i := k) (off := 0) (o' := 0 + k) Try.underlying119 tS9 rfl rfl (by omega) (by omega)) ?_; clear hE a; intro a hE
  refine q0 p19_4_2 hE (st_load1 tA9 rfl ((blk_cell B_g1 _).trans (word_at k hk9))) ?_; clear hE a; intro a hE
  refine q0 p19_4_3 hE (st_assign rfl) ?_; clear hE a; intro a hE
  refine p_nil (x_norm (wp_ret ?_))
  refine ret_one (v := Value.string (wordF k)) rfl hE (.tmp rfl .nil) ?_
  exact ⟨by unfold wordO; rw [if_pos ⟨by omega, by omega⟩] <;> rfl, K_0⟩
 ·
  refine c_reg R19_2_l ?_
  refine q0 p19_2_0 hE (st_move rfl) ?_; clear hE a; intro a hE
  rcases Decidable.em (kk < 0) with hc5 | hc5
  ·
   refine p_cons (s_still (v := Value.bool true) p19_2_1 hE wn_none rfl (st_lss rfl rfl (decide_eq_true hc5)) ?_); clear hE a; intro a hE
   refine q0 p19_2_2 hE (st_move rfl) ?_; clear hE a; intro a hE
   refine p_cons (s_skip p19_2_3 hE (wn_some g19_2_2 rfl rfl) rfl ?_); clear hE a; intro a hE
   refine p_cons (s_skip p19_2_4 hE (wn_some g19_2_2 rfl rfl) rfl ?_); clear hE a; intro a hE
   refine q0 p19_2_5 hE (st_pick rfl rfl) ?_; clear hE a; intro a hE
   refine p_nil (x_norm ?_)
   refine c_cond (t := true) hE rfl ?_
   refine c_reg R19_3_l ?_
   refine q0 p19_3_0 hE (st_assign rfl) ?_; clear hE a; intro a hE
   refine p_nil (x_norm (wp_ret (x_ret ?_)))
   refine ret_one (v := (Value.string { data := #[] })) rfl hE (.tmp rfl .nil) ?_
   exact ⟨by unfold wordO; rw [if_neg (by omega)] <;> rfl, K_0⟩
  ·
   refine p_cons (s_still (v := Value.bool false) p19_2_1 hE wn_none rfl (st_lss rfl rfl (decide_eq_false hc5)) ?_); clear hE a; intro a hE
   refine q0 p19_2_2 hE (st_move rfl) ?_; clear hE a; intro a hE
   refine p_cons (s_still p19_2_3 hE (wn_some g19_2_2 rfl rfl) rfl (st_move rfl) ?_); clear hE a; intro a hE
   refine p_cons (s_still p19_2_4 hE (wn_some g19_2_2 rfl rfl) rfl (st_gtr (b := true) rfl rfl (decide_eq_true (by omega))) ?_); clear hE a; intro a hE
   refine q0 p19_2_5 hE (st_pick rfl rfl) ?_; clear hE a; intro a hE
   refine p_nil (x_norm ?_)
   refine c_cond (t := true) hE rfl ?_
   refine c_reg R19_3_l ?_
   refine q0 p19_3_0 hE (st_assign rfl) ?_; clear hE a; intro a hE
   refine p_nil (x_norm (wp_ret (x_ret ?_)))
   refine ret_one (v := (Value.string { data := #[] })) rfl hE (.tmp rfl .nil) ?_
   exact ⟨by unfold wordO; rw [if_neg (by omega)] <;> rfl, K_0⟩
theorem parts_ok (k : Nat) (hk : k ≤ 9) (w : World) : Calls Try.prog 53 #[.int .i64 (k : Int)] w fun e w' => e = .returned (.string (partsF k)) ∧ Kp w w' (fun _ => False) := by
 have := parts_any (k : Int) w
 rw [show partsO (k : Int) = partsF k from if_pos ⟨by omega, by omega⟩] at this
 exact this
theorem parts_no (kk : Int) (h : ¬ (0 ≤ kk ∧ kk ≤ 9)) (w : World) : Calls Try.prog 53 #[.int .i64 kk] w fun e w' => e = .returned (.string ({ data := #[63] } : ByteArray)) ∧ Kp w w' (fun _ => False) := by
 have := parts_any kk w
 rw [show partsO kk = ({ data := #[63] } : ByteArray) from if_neg h] at this
 exact this
theorem szF_cases (c : Int) : szF c = 0 ∨ szF c = 1 ∨ szF c = 2 ∨ szF c = 4 := by unfold szF; split <;> (try split) <;> (try split) <;> simp
def cntF (s : ByteArray) (n : Nat) : Nat := ((List.range n).filter fun (j : Nat) => decide (0 < szF (bt s (j : Int)))).length
def hasF (s : ByteArray) (c : Int) (n : Nat) : Bool := (List.range n).any fun (j : Nat) => decide (bt s (j : Int) = c)
theorem cnt_yes {s : ByteArray} {n : Nat} (h : 0 < szF (bt s (n : Int))) : cntF s (n + 1) = cntF s n + 1 := by unfold cntF; rw [List.range_succ, List.filter_append]; simp [h]
theorem cnt_not {s : ByteArray} {n : Nat} (h : ¬ 0 < szF (bt s (n : Int))) : cntF s (n + 1) = cntF s n := by unfold cntF; rw [List.range_succ, List.filter_append]; simp [h]
theorem cnt_le (s : ByteArray) (n : Nat) : cntF s n ≤ n := by unfold cntF; exact Nat.le_trans (List.length_filter_le _ _) (by simp)
theorem cnt_mono (s : ByteArray) (n : Nat) : ∀ d, cntF s n ≤ cntF s (n + d)
 | 0 => Nat.le_refl _
 | d + 1 => by
  have := cnt_mono s n d
  by_cases h : 0 < szF (bt s ((n + d : Nat) : Int))
  · have := cnt_yes h; rw [show n + (d + 1) = n + d + 1 from rfl]; omega
  · have := cnt_not h; rw [show n + (d + 1) = n + d + 1 from rfl]; omega
theorem cnt_lt {s : ByteArray} {i n : Nat} (h : 0 < szF (bt s (i : Int))) (hi : i < n) : cntF s i < cntF s n := by
 have h1 := cnt_yes h
 obtain ⟨d, rfl⟩ : ∃ d, n = i + 1 + d := ⟨n - (i + 1), by omega⟩
 have := cnt_mono s (i + 1) d
 omega
theorem has_succ (s : ByteArray) (c : Int) (n : Nat) : hasF s c (n + 1) = (hasF s c n || decide (bt s (n : Int) = c)) := by unfold hasF; rw [List.range_succ, List.any_append]; simp
theorem parts_facts (k : Nat) (hk : k ≤ 9) : cntF (partsF k) (partsF k).size = (sizesF k).length ∧ hasF (partsF k) 97 (partsF k).size = addrF k ∧ hasF (partsF k) 116 (partsF k).size = decide (k = 2) ∧ (partsF k).size ≤ 10 ∧ (((partsF k).toList == (({ data := #[63] } : ByteArray)).toList) = false) := by
 match k, hk with
 | 0, _ => exact ⟨by decide +kernel, by decide +kernel, by decide +kernel, by decide +kernel, by decide +kernel⟩
 | 1, _ => exact ⟨by decide +kernel, by decide +kernel, by decide +kernel, by decide +kernel, by decide +kernel⟩
 | 2, _ => exact ⟨by decide +kernel, by decide +kernel, by decide +kernel, by decide +kernel, by decide +kernel⟩
 | 3, _ => exact ⟨by decide +kernel, by decide +kernel, by decide +kernel, by decide +kernel, by decide +kernel⟩
 | 4, _ => exact ⟨by decide +kernel, by decide +kernel, by decide +kernel, by decide +kernel, by decide +kernel⟩
 | 5, _ => exact ⟨by decide +kernel, by decide +kernel, by decide +kernel, by decide +kernel, by decide +kernel⟩
 | 6, _ => exact ⟨by decide +kernel, by decide +kernel, by decide +kernel, by decide +kernel, by decide +kernel⟩
 | 7, _ => exact ⟨by decide +kernel, by decide +kernel, by decide +kernel, by decide +kernel, by decide +kernel⟩
 | 8, _ => exact ⟨by decide +kernel, by decide +kernel, by decide +kernel, by decide +kernel, by decide +kernel⟩
 | 9, _ => exact ⟨by decide +kernel, by decide +kernel, by decide +kernel, by decide +kernel, by decide +kernel⟩
def okP (s : ByteArray) (l : List Int) (j : Nat) : Prop := 0 < szF (bt s (j : Int)) → ((0 ≤ rd l (cntF s j : Int) ∧ rd l (cntF s j : Int) < spanF (szF (bt s (j : Int)))) ∧ (bt s (j : Int) = 112 → rd l (cntF s j : Int) ≤ 128) ∧ ((bt s (j : Int) = 122 ∨ bt s (j : Int) = 113) → rd l (cntF s j : Int) = 0))
theorem R59_0_l : List.range (regOf Try.f59 0).size = [0, 1] := by kernel_rfl
theorem R59_1_l : List.range (regOf Try.f59 1).size = [0, 1, 2] := by kernel_rfl
theorem R59_2_l : List.range (regOf Try.f59 2).size = [0, 1] := by kernel_rfl
theorem R59_3_l : List.range (regOf Try.f59 3).size = [0, 1] := by kernel_rfl
theorem R59_4_l : List.range (regOf Try.f59 4).size = [0, 1, 2] := by kernel_rfl
theorem R59_5_l : List.range (regOf Try.f59 5).size = [0, 1] := by kernel_rfl
theorem R59_7_l : List.range (regOf Try.f59 7).size = [0, 1, 2, 3, 4, 5, 6] := by kernel_rfl
theorem R59_8_l : List.range (regOf Try.f59 8).size = [0, 1, 2] := by kernel_rfl
theorem R59_6_l : List.range (regOf Try.f59 6).size = [0, 1, 2] := by kernel_rfl
theorem R59_9_l : List.range (regOf Try.f59 9).size = [0, 1, 2, 3, 4] := by kernel_rfl
theorem body59 : Try.f59.body = some (.seq (.region 0 (regOf Try.f59 0) false) (.seq (.region 1 (regOf Try.f59 1) false) (.seq (.seq (.region 2 (regOf Try.f59 2) false) (.cond (Operand.tmp 11) (.seq (.region 3 (regOf Try.f59 3) false) (.ret)) (.skip))) (.seq (.seq (.region 4 (regOf Try.f59 4) false) (.block 0 (.loop (.seq (.seq (.region 5 (regOf Try.f59 5) false) (.cond (Operand.tmp 15) (.skip) (.exit 0))) (.seq (.block 1 (.seq (.region 7 (regOf Try.f59 7) false) (.region 8 (regOf Try.f59 8) false))) (.region 6 (regOf Try.f59 6) false)))))) (.seq (.region 9 (regOf Try.f59 9) false) (.ret)))))) := by kernel_rfl
theorem p59_0_0 : pj (regOf Try.f59 0) 0 = some (some 4, .assign (.const (.slice none 0 0)), 22, none) := by kernel_rfl
theorem p59_0_1 : pj (regOf Try.f59 0) 1 = some (some 5, .assign (.const (.bool false)), 4, none) := by kernel_rfl
theorem p59_1_0 : pj (regOf Try.f59 1) 0 = some (some 8, .move (.tmp 0), 3, none) := by kernel_rfl
theorem p59_1_1 : pj (regOf Try.f59 1) 1 = some (some 9, .makeSlice 22 (.tmp 8) (.tmp 8), 22, none) := by kernel_rfl
theorem eD5 : elemD Try.prog 5 = some (1, 1, 1) := by kernel_rfl
theorem tZ5 : (Try.prog.info? 5).bind (·.zero) = some (Value.int .u8 0) := by kernel_rfl
theorem p59_1_2 : pj (regOf Try.f59 1) 2 = some (some 6, .assign (.tmp 9), 22, none) := by kernel_rfl
theorem p59_2_0 : pj (regOf Try.f59 2) 0 = some (some 10, .move (.tmp 1), 3, none) := by kernel_rfl
theorem p59_2_1 : pj (regOf Try.f59 2) 1 = some (some 11, .binOp .lss 3 (.tmp 10) (.const (.int .i64 0)) 3, 4, none) := by kernel_rfl
theorem p59_3_0 : pj (regOf Try.f59 3) 0 = some (some 4, .assign (.const (.slice none 0 0)), 22, none) := by kernel_rfl
theorem p59_3_1 : pj (regOf Try.f59 3) 1 = some (some 5, .assign (.const (.bool false)), 4, none) := by kernel_rfl
theorem p59_4_0 : pj (regOf Try.f59 4) 0 = some (some 12, .move (.tmp 0), 3, none) := by kernel_rfl
theorem p59_4_1 : pj (regOf Try.f59 4) 1 = some (some 13, .binOp .sub 3 (.tmp 12) (.const (.int .i64 1)) 3, 3, none) := by kernel_rfl
theorem p59_4_2 : pj (regOf Try.f59 4) 2 = some (some 7, .assign (.tmp 13), 3, none) := by kernel_rfl
theorem p59_5_0 : pj (regOf Try.f59 5) 0 = some (some 14, .move (.tmp 7), 3, none) := by kernel_rfl
theorem p59_5_1 : pj (regOf Try.f59 5) 1 = some (some 15, .binOp .geq 3 (.tmp 14) (.const (.int .i64 0)) 3, 4, none) := by kernel_rfl
theorem p59_7_0 : pj (regOf Try.f59 7) 0 = some (some 18, .move (.tmp 6), 22, none) := by kernel_rfl
theorem p59_7_1 : pj (regOf Try.f59 7) 1 = some (some 19, .move (.tmp 7), 3, none) := by kernel_rfl
theorem p59_7_2 : pj (regOf Try.f59 7) 2 = some (some 20, .move (.tmp 1), 3, none) := by kernel_rfl
theorem p59_7_3 : pj (regOf Try.f59 7) 3 = some (some 21, .binOp .rem 3 (.tmp 20) (.const (.int .i64 256)) 3, 3, none) := by kernel_rfl
theorem p59_7_4 : pj (regOf Try.f59 7) 4 = some (some 22, .convert 3 5 (.tmp 21), 5, none) := by kernel_rfl
theorem p59_7_5 : pj (regOf Try.f59 7) 5 = some (some 23, .indexAddr 22 (.tmp 18) (.tmp 19), 0, none) := by kernel_rfl
theorem tS5 : (Try.prog.info? 5).map (·.size) = some 1 := by kernel_rfl
theorem p59_7_6 : pj (regOf Try.f59 7) 6 = some (none, .store 5 (.tmp 23) (.tmp 22), 0, none) := by kernel_rfl
theorem p59_8_0 : pj (regOf Try.f59 8) 0 = some (some 24, .move (.tmp 1), 3, none) := by kernel_rfl
theorem p59_8_1 : pj (regOf Try.f59 8) 1 = some (some 25, .binOp .quo 3 (.tmp 24) (.const (.int .i64 256)) 3, 3, none) := by kernel_rfl
theorem p59_8_2 : pj (regOf Try.f59 8) 2 = some (some 1, .assign (.tmp 25), 3, none) := by kernel_rfl
theorem p59_6_0 : pj (regOf Try.f59 6) 0 = some (some 16, .move (.tmp 7), 3, none) := by kernel_rfl
theorem p59_6_1 : pj (regOf Try.f59 6) 1 = some (some 17, .binOp .sub 3 (.tmp 16) (.const (.int .i64 1)) 3, 3, none) := by kernel_rfl
theorem p59_6_2 : pj (regOf Try.f59 6) 2 = some (some 7, .assign (.tmp 17), 3, none) := by kernel_rfl
theorem p59_9_0 : pj (regOf Try.f59 9) 0 = some (some 26, .move (.tmp 6), 22, none) := by kernel_rfl
theorem p59_9_1 : pj (regOf Try.f59 9) 1 = some (some 27, .move (.tmp 1), 3, none) := by kernel_rfl
theorem p59_9_2 : pj (regOf Try.f59 9) 2 = some (some 28, .binOp .eql 3 (.tmp 27) (.const (.int .i64 0)) 3, 4, none) := by kernel_rfl
theorem p59_9_3 : pj (regOf Try.f59 9) 3 = some (some 4, .assign (.tmp 26), 22, none) := by kernel_rfl
theorem p59_9_4 : pj (regOf Try.f59 9) 4 = some (some 5, .assign (.tmp 28), 4, none) := by kernel_rfl
set_option maxHeartbeats 4000000 in
theorem digs_1 (y : Int) (hy : y ≤ 9223372036854775807) (w : World) : Calls Try.prog 59 #[.int .i64 1, .int .i64 y] w fun e w' => ∃ A' n' c', e = .returned (.tuple #[.slice A' n' c', .bool (decide (0 ≤ y ∧ y < 256))]) ∧ (0 ≤ y → (n' : Int) = 1 ∧ w'.ownsRow w.heap.size 5 1 (.slice A' n' c') n' (encs (Value.int .u8) (digF 1 y))) ∧ Kp w w' (fun _ => False) := by
 have K_0 := Kp.refl w (fun _ => False)
 refine enter (args := [Value.int .i64 1, Value.int .i64 y]) (n := 29) Try.func59 body59 rfl rfl rfl ?_
 intro a hE
 refine c_reg R59_0_l ?_
 refine q0 p59_0_0 hE (st_assign rfl) ?_; clear hE a; intro a hE
 refine q0 p59_0_1 hE (st_assign rfl) ?_; clear hE a; intro a hE
 refine p_nil (x_norm (c_reg R59_1_l ?_))
 refine q0 p59_1_0 hE (st_move rfl) ?_; clear hE a; intro a hE
 refine p_cons (s_make (s := 1) (q := 1) p59_1_1 hE wn_none rfl Try.underlying22 tZ5 eD5 rfl rfl (by decide) (by decide) rfl ?_)
 clear hE a; intro g1 w2 z3 B_g1 hk a hE
 replace B_g1 : w2.heap[g1]? = some (.cells #[Value.int .u8 0] 5 (0, 0)) := B_g1
 have z_0_g1 := Nat.le_trans K_0.kept.1 z3
 replace K_0 := K_0.then_ hk (fun _ h => h.elim)
 clear hk
 refine q0 p59_1_2 hE (st_assign rfl) ?_; clear hE a; intro a hE
 refine p_nil (x_norm (wp_seq (c_reg R59_2_l ?_)))
 refine q0 p59_2_0 hE (st_move rfl) ?_; clear hE a; intro a hE
 rcases Decidable.em (y < 0) with hc4 | hc4
 ·
  refine p_cons (s_still (v := Value.bool true) p59_2_1 hE wn_none rfl (st_lss rfl rfl (decide_eq_true hc4)) ?_); clear hE a; intro a hE
  refine p_nil (x_norm ?_)
  refine c_cond (t := true) hE rfl ?_
  refine c_reg R59_3_l ?_
  refine q0 p59_3_0 hE (st_assign rfl) ?_; clear hE a; intro a hE
  refine q0 p59_3_1 hE (st_assign rfl) ?_; clear hE a; intro a hE
  refine p_nil (x_norm (wp_ret (x_ret ?_)))
  refine ret_list (rs := [.tmp 4, .tmp 5]) (vs := [Value.slice none 0 0, Value.bool false]) rfl hE (.tmp rfl (.tmp rfl .nil)) rfl ?_
  exact ⟨none, 0, 0, by rw [show decide (0 ≤ y ∧ y < _) = false from decide_eq_false (by omega)], fun h => absurd h (by omega), K_0⟩
 ·
  refine p_cons (s_still (v := Value.bool false) p59_2_1 hE wn_none rfl (st_lss rfl rfl (decide_eq_false hc4)) ?_); clear hE a; intro a hE
  refine p_nil (x_norm ?_)
  refine c_cond (t := false) hE rfl ?_
  refine wp_skip (x_norm (wp_seq (c_reg R59_4_l ?_)))
  refine q0 p59_4_0 hE (st_move rfl) ?_; clear hE a; intro a hE
  refine q0 p59_4_1 hE (st_sub (z := 0) rfl rfl (by decide)) ?_; clear hE a; intro a hE
  refine q0 p59_4_2 hE (st_assign rfl) ?_; clear hE a; intro a hE
  refine p_nil (x_norm (wp_block ?_))
  refine wp_loop_rounds 2 ?_
  refine (Eq.mpr (rounds_succ (n := 1)) ?_)
  refine wp_seq (c_reg R59_5_l ?_)
  refine q0 p59_5_0 hE (st_move rfl) ?_; clear hE a; intro a hE
  refine q0 p59_5_1 hE (st_geq (b := true) rfl rfl (by decide)) ?_; clear hE a; intro a hE
  refine p_nil (x_norm ?_)
  refine c_cond (t := true) hE rfl ?_
  refine wp_skip (x_norm (wp_seq (wp_block (c_reg R59_7_l ?_))))
  refine q0 p59_7_0 hE (st_move rfl) ?_; clear hE a; intro a hE
  refine q0 p59_7_1 hE (st_move rfl) ?_; clear hE a; intro a hE
  refine q0 p59_7_2 hE (st_move rfl) ?_; clear hE a; intro a hE
  refine q0 p59_7_3 hE (st_rem (z := y % 256) rfl rfl (by decide) (Int.tmod_eq_emod_of_nonneg (by omega))) ?_; clear hE a; intro a hE
  refine q0 p59_7_4 hE (st_conv (z := (y % 256)) (by kernel_rfl) Try.underlying5 rfl (wr_u8 _ (by omega) (by omega))) ?_; clear hE a; intro a hE
  refine q0 p59_7_5 hE (st_indexAddr (i := 0) Try.underlying22 tS5 rfl rfl (by decide) rfl) ?_; clear hE a; intro a hE
  refine p_cons (s_store (off := 0) (k := 1) (cs' := #[Value.int .u8 (y % 256)]) p59_7_6 hE wn_none tS5 rfl rfl rfl rfl B_g1 (Nat.le_of_ble_eq_true rfl) rfl ?_)
  intro w5 B_g1' hk
  replace K_0 := K_0.then_ hk (fun k h => by rw [show k = g1 from h]; exact Or.inr z_0_g1)
  replace B_g1 := B_g1'
  clear hk
  refine p_nil (x_norm (c_regL R59_8_l ?_))
  refine q0 p59_8_0 hE (st_move rfl) ?_; clear hE a; intro a hE
  refine q0 p59_8_1 hE (st_quo (z := y / 256) rfl rfl (by decide) (by rw [Int.tdiv_eq_ediv_of_nonneg (by omega)]; exact wr_i64 _ (by omega) (by omega))) ?_; clear hE a; intro a hE
  refine q0 p59_8_2 hE (st_assign rfl) ?_; clear hE a; intro a hE
  refine p_nil (x_normB (x_norm (c_regL R59_6_l ?_)))
  refine q0 p59_6_0 hE (st_move rfl) ?_; clear hE a; intro a hE
  refine q0 p59_6_1 hE (st_sub (z := -1) rfl rfl (by decide)) ?_; clear hE a; intro a hE
  refine q0 p59_6_2 hE (st_assign rfl) ?_; clear hE a; intro a hE
  refine p_nil (x_norm ?_)
  refine (Eq.mpr (rounds_succ (n := 0)) ?_)
  refine wp_seq (c_reg R59_5_l ?_)
  refine q0 p59_5_0 hE (st_move rfl) ?_; clear hE a; intro a hE
  refine q0 p59_5_1 hE (st_geq (b := false) rfl rfl (by decide)) ?_; clear hE a; intro a hE
  refine p_nil (x_norm ?_)
  refine c_cond (t := false) hE rfl ?_
  refine wp_exit (x_exit (x_exit (x_in (x_norm (c_reg R59_9_l ?_)))))
  refine q0 p59_9_0 hE (st_move rfl) ?_; clear hE a; intro a hE
  refine q0 p59_9_1 hE (st_move rfl) ?_; clear hE a; intro a hE
  refine q0 p59_9_2 hE (st_eql (b := (decide ((y / 256) = 0))) rfl rfl rfl) ?_; clear hE a; intro a hE
  refine q0 p59_9_3 hE (st_assign rfl) ?_; clear hE a; intro a hE
  refine q0 p59_9_4 hE (st_assign rfl) ?_; clear hE a; intro a hE
  refine p_nil (x_norm (wp_ret ?_))
  refine ret_list (rs := [.tmp 4, .tmp 5]) (vs := [Value.slice (some ⟨g1, 0, none⟩) 1 1, Value.bool (decide ((y / 256) = 0))]) rfl hE (.tmp rfl (.tmp rfl .nil)) rfl ?_
  have O_o := own_blk9 (k := .u8) (l := [(y % 256)]) B_g1 (show w.heap.size ≤ g1 from z_0_g1) rfl (Nat.le_of_ble_eq_true rfl)
  have Z_0_o : ∀ k, OB (some ⟨g1, 0, none⟩) k → (fun _ => False) k ∨ w.heap.size ≤ k := fun k h => by have h := ob_blk.1 h; subst h; exact Or.inr z_0_g1
  have e9 : [(y % 256)] = digF 1 y := by simp [digF]; try omega
  rw [e9] at O_o
  have e8 : (decide ((y / 256) = 0)) = decide (0 ≤ y ∧ y < 256) := decide_eq_decide.2 ⟨fun h => by omega, fun h => by omega⟩
  exact ⟨some ⟨g1, 0, none⟩, 1, 1, by rw [e8], fun _ => ⟨rfl, O_o⟩, K_0⟩

set_option maxHeartbeats 4000000 in
theorem digs_2 (y : Int) (hy : y ≤ 9223372036854775807) (w : World) : Calls Try.prog 59 #[.int .i64 2, .int .i64 y] w fun e w' => ∃ A' n' c', e = .returned (.tuple #[.slice A' n' c', .bool (decide (0 ≤ y ∧ y < 65536))]) ∧ (0 ≤ y → (n' : Int) = 2 ∧ w'.ownsRow w.heap.size 5 1 (.slice A' n' c') n' (encs (Value.int .u8) (digF 2 y))) ∧ Kp w w' (fun _ => False) := by
 have K_0 := Kp.refl w (fun _ => False)
 refine enter (args := [Value.int .i64 2, Value.int .i64 y]) (n := 29) Try.func59 body59 rfl rfl rfl ?_
 intro a hE
 refine c_reg R59_0_l ?_
 refine q0 p59_0_0 hE (st_assign rfl) ?_; clear hE a; intro a hE
 refine q0 p59_0_1 hE (st_assign rfl) ?_; clear hE a; intro a hE
 refine p_nil (x_norm (c_reg R59_1_l ?_))
 refine q0 p59_1_0 hE (st_move rfl) ?_; clear hE a; intro a hE
 refine p_cons (s_make (s := 1) (q := 2) p59_1_1 hE wn_none rfl Try.underlying22 tZ5 eD5 rfl rfl (by decide) (by decide) rfl ?_)
 clear hE a; intro g1 w2 z3 B_g1 hk a hE
 replace B_g1 : w2.heap[g1]? = some (.cells #[Value.int .u8 0, Value.int .u8 0] 5 (0, 0)) := B_g1
 have z_0_g1 := Nat.le_trans K_0.kept.1 z3
 replace K_0 := K_0.then_ hk (fun _ h => h.elim)
 clear hk
 refine q0 p59_1_2 hE (st_assign rfl) ?_; clear hE a; intro a hE
 refine p_nil (x_norm (wp_seq (c_reg R59_2_l ?_)))
 refine q0 p59_2_0 hE (st_move rfl) ?_; clear hE a; intro a hE
 rcases Decidable.em (y < 0) with hc4 | hc4
 ·
  refine p_cons (s_still (v := Value.bool true) p59_2_1 hE wn_none rfl (st_lss rfl rfl (decide_eq_true hc4)) ?_); clear hE a; intro a hE
  refine p_nil (x_norm ?_)
  refine c_cond (t := true) hE rfl ?_
  refine c_reg R59_3_l ?_
  refine q0 p59_3_0 hE (st_assign rfl) ?_; clear hE a; intro a hE
  refine q0 p59_3_1 hE (st_assign rfl) ?_; clear hE a; intro a hE
  refine p_nil (x_norm (wp_ret (x_ret ?_)))
  refine ret_list (rs := [.tmp 4, .tmp 5]) (vs := [Value.slice none 0 0, Value.bool false]) rfl hE (.tmp rfl (.tmp rfl .nil)) rfl ?_
  exact ⟨none, 0, 0, by rw [show decide (0 ≤ y ∧ y < _) = false from decide_eq_false (by omega)], fun h => absurd h (by omega), K_0⟩
 ·
  refine p_cons (s_still (v := Value.bool false) p59_2_1 hE wn_none rfl (st_lss rfl rfl (decide_eq_false hc4)) ?_); clear hE a; intro a hE
  refine p_nil (x_norm ?_)
  refine c_cond (t := false) hE rfl ?_
  refine wp_skip (x_norm (wp_seq (c_reg R59_4_l ?_)))
  refine q0 p59_4_0 hE (st_move rfl) ?_; clear hE a; intro a hE
  refine q0 p59_4_1 hE (st_sub (z := 1) rfl rfl (by decide)) ?_; clear hE a; intro a hE
  refine q0 p59_4_2 hE (st_assign rfl) ?_; clear hE a; intro a hE
  refine p_nil (x_norm (wp_block ?_))
  refine wp_loop_rounds 3 ?_
  refine (Eq.mpr (rounds_succ (n := 2)) ?_)
  refine wp_seq (c_reg R59_5_l ?_)
  refine q0 p59_5_0 hE (st_move rfl) ?_; clear hE a; intro a hE
  refine q0 p59_5_1 hE (st_geq (b := true) rfl rfl (by decide)) ?_; clear hE a; intro a hE
  refine p_nil (x_norm ?_)
  refine c_cond (t := true) hE rfl ?_
  refine wp_skip (x_norm (wp_seq (wp_block (c_reg R59_7_l ?_))))
  refine q0 p59_7_0 hE (st_move rfl) ?_; clear hE a; intro a hE
  refine q0 p59_7_1 hE (st_move rfl) ?_; clear hE a; intro a hE
  refine q0 p59_7_2 hE (st_move rfl) ?_; clear hE a; intro a hE
  refine q0 p59_7_3 hE (st_rem (z := y % 256) rfl rfl (by decide) (Int.tmod_eq_emod_of_nonneg (by omega))) ?_; clear hE a; intro a hE
  refine q0 p59_7_4 hE (st_conv (z := (y % 256)) (by kernel_rfl) Try.underlying5 rfl (wr_u8 _ (by omega) (by omega))) ?_; clear hE a; intro a hE
  refine q0 p59_7_5 hE (st_indexAddr (i := 1) Try.underlying22 tS5 rfl rfl (by decide) rfl) ?_; clear hE a; intro a hE
  refine p_cons (s_store (off := 1) (k := 1) (cs' := #[Value.int .u8 0, Value.int .u8 (y % 256)]) p59_7_6 hE wn_none tS5 rfl rfl rfl rfl B_g1 (Nat.le_of_ble_eq_true rfl) rfl ?_)
  intro w5 B_g1' hk
  replace K_0 := K_0.then_ hk (fun k h => by rw [show k = g1 from h]; exact Or.inr z_0_g1)
  replace B_g1 := B_g1'
  clear hk
  refine p_nil (x_norm (c_regL R59_8_l ?_))
  refine q0 p59_8_0 hE (st_move rfl) ?_; clear hE a; intro a hE
  refine q0 p59_8_1 hE (st_quo (z := y / 256) rfl rfl (by decide) (by rw [Int.tdiv_eq_ediv_of_nonneg (by omega)]; exact wr_i64 _ (by omega) (by omega))) ?_; clear hE a; intro a hE
  refine q0 p59_8_2 hE (st_assign rfl) ?_; clear hE a; intro a hE
  refine p_nil (x_normB (x_norm (c_regL R59_6_l ?_)))
  refine q0 p59_6_0 hE (st_move rfl) ?_; clear hE a; intro a hE
  refine q0 p59_6_1 hE (st_sub (z := 0) rfl rfl (by decide)) ?_; clear hE a; intro a hE
  refine q0 p59_6_2 hE (st_assign rfl) ?_; clear hE a; intro a hE
  refine p_nil (x_norm ?_)
  refine (Eq.mpr (rounds_succ (n := 1)) ?_)
  refine wp_seq (c_reg R59_5_l ?_)
  refine q0 p59_5_0 hE (st_move rfl) ?_; clear hE a; intro a hE
  refine q0 p59_5_1 hE (st_geq (b := true) rfl rfl (by decide)) ?_; clear hE a; intro a hE
  refine p_nil (x_norm ?_)
  refine c_cond (t := true) hE rfl ?_
  refine wp_skip (x_norm (wp_seq (wp_block (c_reg R59_7_l ?_))))
  refine q0 p59_7_0 hE (st_move rfl) ?_; clear hE a; intro a hE
  refine q0 p59_7_1 hE (st_move rfl) ?_; clear hE a; intro a hE
  refine q0 p59_7_2 hE (st_move rfl) ?_; clear hE a; intro a hE
  refine q0 p59_7_3 hE (st_rem (z := (y / 256) % 256) rfl rfl (by decide) (Int.tmod_eq_emod_of_nonneg (by omega))) ?_; clear hE a; intro a hE
  refine q0 p59_7_4 hE (st_conv (z := ((y / 256) % 256)) (by kernel_rfl) Try.underlying5 rfl (wr_u8 _ (by omega) (by omega))) ?_; clear hE a; intro a hE
  refine q0 p59_7_5 hE (st_indexAddr (i := 0) Try.underlying22 tS5 rfl rfl (by decide) rfl) ?_; clear hE a; intro a hE
  refine p_cons (s_store (off := 0) (k := 1) (cs' := #[Value.int .u8 ((y / 256) % 256), Value.int .u8 (y % 256)]) p59_7_6 hE wn_none tS5 rfl rfl rfl rfl B_g1 (Nat.le_of_ble_eq_true rfl) rfl ?_)
  intro w6 B_g1' hk
  replace K_0 := K_0.then_ hk (fun k h => by rw [show k = g1 from h]; exact Or.inr z_0_g1)
  replace B_g1 := B_g1'
  clear hk
  refine p_nil (x_norm (c_regL R59_8_l ?_))
  refine q0 p59_8_0 hE (st_move rfl) ?_; clear hE a; intro a hE
  refine q0 p59_8_1 hE (st_quo (z := (y / 256) / 256) rfl rfl (by decide) (by rw [Int.tdiv_eq_ediv_of_nonneg (by omega)]; exact wr_i64 _ (by omega) (by omega))) ?_; clear hE a; intro a hE
  refine q0 p59_8_2 hE (st_assign rfl) ?_; clear hE a; intro a hE
  refine p_nil (x_normB (x_norm (c_regL R59_6_l ?_)))
  refine q0 p59_6_0 hE (st_move rfl) ?_; clear hE a; intro a hE
  refine q0 p59_6_1 hE (st_sub (z := -1) rfl rfl (by decide)) ?_; clear hE a; intro a hE
  refine q0 p59_6_2 hE (st_assign rfl) ?_; clear hE a; intro a hE
  refine p_nil (x_norm ?_)
  refine (Eq.mpr (rounds_succ (n := 0)) ?_)
  refine wp_seq (c_reg R59_5_l ?_)
  refine q0 p59_5_0 hE (st_move rfl) ?_; clear hE a; intro a hE
  refine q0 p59_5_1 hE (st_geq (b := false) rfl rfl (by decide)) ?_; clear hE a; intro a hE
  refine p_nil (x_norm ?_)
  refine c_cond (t := false) hE rfl ?_
  refine wp_exit (x_exit (x_exit (x_in (x_norm (c_reg R59_9_l ?_)))))
  refine q0 p59_9_0 hE (st_move rfl) ?_; clear hE a; intro a hE
  refine q0 p59_9_1 hE (st_move rfl) ?_; clear hE a; intro a hE
  refine q0 p59_9_2 hE (st_eql (b := (decide (((y / 256) / 256) = 0))) rfl rfl rfl) ?_; clear hE a; intro a hE
  refine q0 p59_9_3 hE (st_assign rfl) ?_; clear hE a; intro a hE
  refine q0 p59_9_4 hE (st_assign rfl) ?_; clear hE a; intro a hE
  refine p_nil (x_norm (wp_ret ?_))
  refine ret_list (rs := [.tmp 4, .tmp 5]) (vs := [Value.slice (some ⟨g1, 0, none⟩) 2 2, Value.bool (decide (((y / 256) / 256) = 0))]) rfl hE (.tmp rfl (.tmp rfl .nil)) rfl ?_
  have O_o := own_blk9 (k := .u8) (l := [((y / 256) % 256), (y % 256)]) B_g1 (show w.heap.size ≤ g1 from z_0_g1) rfl (Nat.le_of_ble_eq_true rfl)
  have Z_0_o : ∀ k, OB (some ⟨g1, 0, none⟩) k → (fun _ => False) k ∨ w.heap.size ≤ k := fun k h => by have h := ob_blk.1 h; subst h; exact Or.inr z_0_g1
  have e9 : [((y / 256) % 256), (y % 256)] = digF 2 y := by simp [digF]; try omega
  rw [e9] at O_o
  have e8 : (decide (((y / 256) / 256) = 0)) = decide (0 ≤ y ∧ y < 65536) := decide_eq_decide.2 ⟨fun h => by omega, fun h => by omega⟩
  exact ⟨some ⟨g1, 0, none⟩, 2, 2, by rw [e8], fun _ => ⟨rfl, O_o⟩, K_0⟩

set_option maxHeartbeats 4000000 in
theorem digs_4 (y : Int) (hy : y ≤ 9223372036854775807) (w : World) : Calls Try.prog 59 #[.int .i64 4, .int .i64 y] w fun e w' => ∃ A' n' c', e = .returned (.tuple #[.slice A' n' c', .bool (decide (0 ≤ y ∧ y < 4294967296))]) ∧ (0 ≤ y → (n' : Int) = 4 ∧ w'.ownsRow w.heap.size 5 1 (.slice A' n' c') n' (encs (Value.int .u8) (digF 4 y))) ∧ Kp w w' (fun _ => False) := by
 have K_0 := Kp.refl w (fun _ => False)
 refine enter (args := [Value.int .i64 4, Value.int .i64 y]) (n := 29) Try.func59 body59 rfl rfl rfl ?_
 intro a hE
 refine c_reg R59_0_l ?_
 refine q0 p59_0_0 hE (st_assign rfl) ?_; clear hE a; intro a hE
 refine q0 p59_0_1 hE (st_assign rfl) ?_; clear hE a; intro a hE
 refine p_nil (x_norm (c_reg R59_1_l ?_))
 refine q0 p59_1_0 hE (st_move rfl) ?_; clear hE a; intro a hE
 refine p_cons (s_make (s := 1) (q := 4) p59_1_1 hE wn_none rfl Try.underlying22 tZ5 eD5 rfl rfl (by decide) (by decide) rfl ?_)
 clear hE a; intro g1 w2 z3 B_g1 hk a hE
 replace B_g1 : w2.heap[g1]? = some (.cells #[Value.int .u8 0, Value.int .u8 0, Value.int .u8 0, Value.int .u8 0] 5 (0, 0)) := B_g1
 have z_0_g1 := Nat.le_trans K_0.kept.1 z3
 replace K_0 := K_0.then_ hk (fun _ h => h.elim)
 clear hk
 refine q0 p59_1_2 hE (st_assign rfl) ?_; clear hE a; intro a hE
 refine p_nil (x_norm (wp_seq (c_reg R59_2_l ?_)))
 refine q0 p59_2_0 hE (st_move rfl) ?_; clear hE a; intro a hE
 rcases Decidable.em (y < 0) with hc4 | hc4
 ·
  refine p_cons (s_still (v := Value.bool true) p59_2_1 hE wn_none rfl (st_lss rfl rfl (decide_eq_true hc4)) ?_); clear hE a; intro a hE
  refine p_nil (x_norm ?_)
  refine c_cond (t := true) hE rfl ?_
  refine c_reg R59_3_l ?_
  refine q0 p59_3_0 hE (st_assign rfl) ?_; clear hE a; intro a hE
  refine q0 p59_3_1 hE (st_assign rfl) ?_; clear hE a; intro a hE
  refine p_nil (x_norm (wp_ret (x_ret ?_)))
  refine ret_list (rs := [.tmp 4, .tmp 5]) (vs := [Value.slice none 0 0, Value.bool false]) rfl hE (.tmp rfl (.tmp rfl .nil)) rfl ?_
  exact ⟨none, 0, 0, by rw [show decide (0 ≤ y ∧ y < _) = false from decide_eq_false (by omega)], fun h => absurd h (by omega), K_0⟩
 ·
  refine p_cons (s_still (v := Value.bool false) p59_2_1 hE wn_none rfl (st_lss rfl rfl (decide_eq_false hc4)) ?_); clear hE a; intro a hE
  refine p_nil (x_norm ?_)
  refine c_cond (t := false) hE rfl ?_
  refine wp_skip (x_norm (wp_seq (c_reg R59_4_l ?_)))
  refine q0 p59_4_0 hE (st_move rfl) ?_; clear hE a; intro a hE
  refine q0 p59_4_1 hE (st_sub (z := 3) rfl rfl (by decide)) ?_; clear hE a; intro a hE
  refine q0 p59_4_2 hE (st_assign rfl) ?_; clear hE a; intro a hE
  refine p_nil (x_norm (wp_block ?_))
  refine wp_loop_rounds 5 ?_
  refine (Eq.mpr (rounds_succ (n := 4)) ?_)
  refine wp_seq (c_reg R59_5_l ?_)
  refine q0 p59_5_0 hE (st_move rfl) ?_; clear hE a; intro a hE
  refine q0 p59_5_1 hE (st_geq (b := true) rfl rfl (by decide)) ?_; clear hE a; intro a hE
  refine p_nil (x_norm ?_)
  refine c_cond (t := true) hE rfl ?_
  refine wp_skip (x_norm (wp_seq (wp_block (c_reg R59_7_l ?_))))
  refine q0 p59_7_0 hE (st_move rfl) ?_; clear hE a; intro a hE
  refine q0 p59_7_1 hE (st_move rfl) ?_; clear hE a; intro a hE
  refine q0 p59_7_2 hE (st_move rfl) ?_; clear hE a; intro a hE
  refine q0 p59_7_3 hE (st_rem (z := y % 256) rfl rfl (by decide) (Int.tmod_eq_emod_of_nonneg (by omega))) ?_; clear hE a; intro a hE
  refine q0 p59_7_4 hE (st_conv (z := (y % 256)) (by kernel_rfl) Try.underlying5 rfl (wr_u8 _ (by omega) (by omega))) ?_; clear hE a; intro a hE
  refine q0 p59_7_5 hE (st_indexAddr (i := 3) Try.underlying22 tS5 rfl rfl (by decide) rfl) ?_; clear hE a; intro a hE
  refine p_cons (s_store (off := 3) (k := 1) (cs' := #[Value.int .u8 0, Value.int .u8 0, Value.int .u8 0, Value.int .u8 (y % 256)]) p59_7_6 hE wn_none tS5 rfl rfl rfl rfl B_g1 (Nat.le_of_ble_eq_true rfl) rfl ?_)
  intro w5 B_g1' hk
  replace K_0 := K_0.then_ hk (fun k h => by rw [show k = g1 from h]; exact Or.inr z_0_g1)
  replace B_g1 := B_g1'
  clear hk
  refine p_nil (x_norm (c_regL R59_8_l ?_))
  refine q0 p59_8_0 hE (st_move rfl) ?_; clear hE a; intro a hE
  refine q0 p59_8_1 hE (st_quo (z := y / 256) rfl rfl (by decide) (by rw [Int.tdiv_eq_ediv_of_nonneg (by omega)]; exact wr_i64 _ (by omega) (by omega))) ?_; clear hE a; intro a hE
  refine q0 p59_8_2 hE (st_assign rfl) ?_; clear hE a; intro a hE
  refine p_nil (x_normB (x_norm (c_regL R59_6_l ?_)))
  refine q0 p59_6_0 hE (st_move rfl) ?_; clear hE a; intro a hE
  refine q0 p59_6_1 hE (st_sub (z := 2) rfl rfl (by decide)) ?_; clear hE a; intro a hE
  refine q0 p59_6_2 hE (st_assign rfl) ?_; clear hE a; intro a hE
  refine p_nil (x_norm ?_)
  refine (Eq.mpr (rounds_succ (n := 3)) ?_)
  refine wp_seq (c_reg R59_5_l ?_)
  refine q0 p59_5_0 hE (st_move rfl) ?_; clear hE a; intro a hE
  refine q0 p59_5_1 hE (st_geq (b := true) rfl rfl (by decide)) ?_; clear hE a; intro a hE
  refine p_nil (x_norm ?_)
  refine c_cond (t := true) hE rfl ?_
  refine wp_skip (x_norm (wp_seq (wp_block (c_reg R59_7_l ?_))))
  refine q0 p59_7_0 hE (st_move rfl) ?_; clear hE a; intro a hE
  refine q0 p59_7_1 hE (st_move rfl) ?_; clear hE a; intro a hE
  refine q0 p59_7_2 hE (st_move rfl) ?_; clear hE a; intro a hE
  refine q0 p59_7_3 hE (st_rem (z := (y / 256) % 256) rfl rfl (by decide) (Int.tmod_eq_emod_of_nonneg (by omega))) ?_; clear hE a; intro a hE
  refine q0 p59_7_4 hE (st_conv (z := ((y / 256) % 256)) (by kernel_rfl) Try.underlying5 rfl (wr_u8 _ (by omega) (by omega))) ?_; clear hE a; intro a hE
  refine q0 p59_7_5 hE (st_indexAddr (i := 2) Try.underlying22 tS5 rfl rfl (by decide) rfl) ?_; clear hE a; intro a hE
  refine p_cons (s_store (off := 2) (k := 1) (cs' := #[Value.int .u8 0, Value.int .u8 0, Value.int .u8 ((y / 256) % 256), Value.int .u8 (y % 256)]) p59_7_6 hE wn_none tS5 rfl rfl rfl rfl B_g1 (Nat.le_of_ble_eq_true rfl) rfl ?_)
  intro w6 B_g1' hk
  replace K_0 := K_0.then_ hk (fun k h => by rw [show k = g1 from h]; exact Or.inr z_0_g1)
  replace B_g1 := B_g1'
  clear hk
  refine p_nil (x_norm (c_regL R59_8_l ?_))
  refine q0 p59_8_0 hE (st_move rfl) ?_; clear hE a; intro a hE
  refine q0 p59_8_1 hE (st_quo (z := (y / 256) / 256) rfl rfl (by decide) (by rw [Int.tdiv_eq_ediv_of_nonneg (by omega)]; exact wr_i64 _ (by omega) (by omega))) ?_; clear hE a; intro a hE
  refine q0 p59_8_2 hE (st_assign rfl) ?_; clear hE a; intro a hE
  refine p_nil (x_normB (x_norm (c_regL R59_6_l ?_)))
  refine q0 p59_6_0 hE (st_move rfl) ?_; clear hE a; intro a hE
  refine q0 p59_6_1 hE (st_sub (z := 1) rfl rfl (by decide)) ?_; clear hE a; intro a hE
  refine q0 p59_6_2 hE (st_assign rfl) ?_; clear hE a; intro a hE
  refine p_nil (x_norm ?_)
  refine (Eq.mpr (rounds_succ (n := 2)) ?_)
  refine wp_seq (c_reg R59_5_l ?_)
  refine q0 p59_5_0 hE (st_move rfl) ?_; clear hE a; intro a hE
  refine q0 p59_5_1 hE (st_geq (b := true) rfl rfl (by decide)) ?_; clear hE a; intro a hE
  refine p_nil (x_norm ?_)
  refine c_cond (t := true) hE rfl ?_
  refine wp_skip (x_norm (wp_seq (wp_block (c_reg R59_7_l ?_))))
  refine q0 p59_7_0 hE (st_move rfl) ?_; clear hE a; intro a hE
  refine q0 p59_7_1 hE (st_move rfl) ?_; clear hE a; intro a hE
  refine q0 p59_7_2 hE (st_move rfl) ?_; clear hE a; intro a hE
  refine q0 p59_7_3 hE (st_rem (z := ((y / 256) / 256) % 256) rfl rfl (by decide) (Int.tmod_eq_emod_of_nonneg (by omega))) ?_; clear hE a; intro a hE
  refine q0 p59_7_4 hE (st_conv (z := (((y / 256) / 256) % 256)) (by kernel_rfl) Try.underlying5 rfl (wr_u8 _ (by omega) (by omega))) ?_; clear hE a; intro a hE
  refine q0 p59_7_5 hE (st_indexAddr (i := 1) Try.underlying22 tS5 rfl rfl (by decide) rfl) ?_; clear hE a; intro a hE
  refine p_cons (s_store (off := 1) (k := 1) (cs' := #[Value.int .u8 0, Value.int .u8 (((y / 256) / 256) % 256), Value.int .u8 ((y / 256) % 256), Value.int .u8 (y % 256)]) p59_7_6 hE wn_none tS5 rfl rfl rfl rfl B_g1 (Nat.le_of_ble_eq_true rfl) rfl ?_)
  intro w7 B_g1' hk
  replace K_0 := K_0.then_ hk (fun k h => by rw [show k = g1 from h]; exact Or.inr z_0_g1)
  replace B_g1 := B_g1'
  clear hk
  refine p_nil (x_norm (c_regL R59_8_l ?_))
  refine q0 p59_8_0 hE (st_move rfl) ?_; clear hE a; intro a hE
  refine q0 p59_8_1 hE (st_quo (z := ((y / 256) / 256) / 256) rfl rfl (by decide) (by rw [Int.tdiv_eq_ediv_of_nonneg (by omega)]; exact wr_i64 _ (by omega) (by omega))) ?_; clear hE a; intro a hE
  refine q0 p59_8_2 hE (st_assign rfl) ?_; clear hE a; intro a hE
  refine p_nil (x_normB (x_norm (c_regL R59_6_l ?_)))
  refine q0 p59_6_0 hE (st_move rfl) ?_; clear hE a; intro a hE
  refine q0 p59_6_1 hE (st_sub (z := 0) rfl rfl (by decide)) ?_; clear hE a; intro a hE
  refine q0 p59_6_2 hE (st_assign rfl) ?_; clear hE a; intro a hE
  refine p_nil (x_norm ?_)
  refine (Eq.mpr (rounds_succ (n := 1)) ?_)
  refine wp_seq (c_reg R59_5_l ?_)
  refine q0 p59_5_0 hE (st_move rfl) ?_; clear hE a; intro a hE
  refine q0 p59_5_1 hE (st_geq (b := true) rfl rfl (by decide)) ?_; clear hE a; intro a hE
  refine p_nil (x_norm ?_)
  refine c_cond (t := true) hE rfl ?_
  refine wp_skip (x_norm (wp_seq (wp_block (c_reg R59_7_l ?_))))
  refine q0 p59_7_0 hE (st_move rfl) ?_; clear hE a; intro a hE
  refine q0 p59_7_1 hE (st_move rfl) ?_; clear hE a; intro a hE
  refine q0 p59_7_2 hE (st_move rfl) ?_; clear hE a; intro a hE
  refine q0 p59_7_3 hE (st_rem (z := (((y / 256) / 256) / 256) % 256) rfl rfl (by decide) (Int.tmod_eq_emod_of_nonneg (by omega))) ?_; clear hE a; intro a hE
  refine q0 p59_7_4 hE (st_conv (z := ((((y / 256) / 256) / 256) % 256)) (by kernel_rfl) Try.underlying5 rfl (wr_u8 _ (by omega) (by omega))) ?_; clear hE a; intro a hE
  refine q0 p59_7_5 hE (st_indexAddr (i := 0) Try.underlying22 tS5 rfl rfl (by decide) rfl) ?_; clear hE a; intro a hE
  refine p_cons (s_store (off := 0) (k := 1) (cs' := #[Value.int .u8 ((((y / 256) / 256) / 256) % 256), Value.int .u8 (((y / 256) / 256) % 256), Value.int .u8 ((y / 256) % 256), Value.int .u8 (y % 256)]) p59_7_6 hE wn_none tS5 rfl rfl rfl rfl B_g1 (Nat.le_of_ble_eq_true rfl) rfl ?_)
  intro w8 B_g1' hk
  replace K_0 := K_0.then_ hk (fun k h => by rw [show k = g1 from h]; exact Or.inr z_0_g1)
  replace B_g1 := B_g1'
  clear hk
  refine p_nil (x_norm (c_regL R59_8_l ?_))
  refine q0 p59_8_0 hE (st_move rfl) ?_; clear hE a; intro a hE
  refine q0 p59_8_1 hE (st_quo (z := (((y / 256) / 256) / 256) / 256) rfl rfl (by decide) (by rw [Int.tdiv_eq_ediv_of_nonneg (by omega)]; exact wr_i64 _ (by omega) (by omega))) ?_; clear hE a; intro a hE
  refine q0 p59_8_2 hE (st_assign rfl) ?_; clear hE a; intro a hE
  refine p_nil (x_normB (x_norm (c_regL R59_6_l ?_)))
  refine q0 p59_6_0 hE (st_move rfl) ?_; clear hE a; intro a hE
  refine q0 p59_6_1 hE (st_sub (z := -1) rfl rfl (by decide)) ?_; clear hE a; intro a hE
  refine q0 p59_6_2 hE (st_assign rfl) ?_; clear hE a; intro a hE
  refine p_nil (x_norm ?_)
  refine (Eq.mpr (rounds_succ (n := 0)) ?_)
  refine wp_seq (c_reg R59_5_l ?_)
  refine q0 p59_5_0 hE (st_move rfl) ?_; clear hE a; intro a hE
  refine q0 p59_5_1 hE (st_geq (b := false) rfl rfl (by decide)) ?_; clear hE a; intro a hE
  refine p_nil (x_norm ?_)
  refine c_cond (t := false) hE rfl ?_
  refine wp_exit (x_exit (x_exit (x_in (x_norm (c_reg R59_9_l ?_)))))
  refine q0 p59_9_0 hE (st_move rfl) ?_; clear hE a; intro a hE
  refine q0 p59_9_1 hE (st_move rfl) ?_; clear hE a; intro a hE
  refine q0 p59_9_2 hE (st_eql (b := (decide (((((y / 256) / 256) / 256) / 256) = 0))) rfl rfl rfl) ?_; clear hE a; intro a hE
  refine q0 p59_9_3 hE (st_assign rfl) ?_; clear hE a; intro a hE
  refine q0 p59_9_4 hE (st_assign rfl) ?_; clear hE a; intro a hE
  refine p_nil (x_norm (wp_ret ?_))
  refine ret_list (rs := [.tmp 4, .tmp 5]) (vs := [Value.slice (some ⟨g1, 0, none⟩) 4 4, Value.bool (decide (((((y / 256) / 256) / 256) / 256) = 0))]) rfl hE (.tmp rfl (.tmp rfl .nil)) rfl ?_
  have O_o := own_blk9 (k := .u8) (l := [((((y / 256) / 256) / 256) % 256), (((y / 256) / 256) % 256), ((y / 256) % 256), (y % 256)]) B_g1 (show w.heap.size ≤ g1 from z_0_g1) rfl (Nat.le_of_ble_eq_true rfl)
  have Z_0_o : ∀ k, OB (some ⟨g1, 0, none⟩) k → (fun _ => False) k ∨ w.heap.size ≤ k := fun k h => by have h := ob_blk.1 h; subst h; exact Or.inr z_0_g1
  have e9 : [((((y / 256) / 256) / 256) % 256), (((y / 256) / 256) % 256), ((y / 256) % 256), (y % 256)] = digF 4 y := by simp [digF]; try omega
  rw [e9] at O_o
  have e8 : (decide (((((y / 256) / 256) / 256) / 256) = 0)) = decide (0 ≤ y ∧ y < 4294967296) := decide_eq_decide.2 ⟨fun h => by omega, fun h => by omega⟩
  exact ⟨some ⟨g1, 0, none⟩, 4, 4, by rw [e8], fun _ => ⟨rfl, O_o⟩, K_0⟩
theorem dig_sz (c y : Int) (hc : 0 < szF c) (hy : y ≤ 9223372036854775807) (w : World) : Calls Try.prog 59 #[.int .i64 (szF c), .int .i64 y] w fun e w' => ∃ A' n' c', e = .returned (.tuple #[.slice A' n' c', .bool (decide (0 ≤ y ∧ y < spanF (szF c)))]) ∧ (0 ≤ y → (n' : Int) = (szF c) ∧ w'.ownsRow w.heap.size 5 1 (.slice A' n' c') n' (encs (Value.int .u8) (digF (szF c) y))) ∧ Kp w w' (fun _ => False) := by
 rcases szF_cases c with h | h | h | h
 · omega
 · rw [h]; exact digs_1 y hy w
 · rw [h]; exact digs_2 y hy w
 · rw [h]; exact digs_4 y hy w
end Go.Proofs.Ytgpclehnomkbmaa.Orf
