/- A kind's word, the program's and the document's. -/
import Derived.Test.YtndiddfleidnaaaOpt
set_option maxRecDepth 100000
set_option linter.unusedVariables false
set_option linter.unusedSimpArgs false
namespace Go.Proofs.Ytndiddfleidnaaa.Ow
open Go.RowKit Go.Proofs.YtndiddfleidnaaaW.PrintWords Go.Proofs.Ytndiddfleidnaaa.Ds Go.Proofs.Ytndiddfleidnaaa.Op
open Go.Proofs.Ytndiddfleidnaaa.Pk (Kp)
def wordO (k : Int) : ByteArray := if 0 ≤ k ∧ k ≤ 9 then wordF k.toNat else ByteArray.empty
theorem R43_0_l : List.range (regOf Try.f43 0).size = [0] := by kernel_rfl
theorem R43_1_l : List.range (regOf Try.f43 1).size = [0, 1, 2, 3, 4, 5, 6, 7] := by kernel_rfl
theorem R43_2_l : List.range (regOf Try.f43 2).size = [0, 1, 2] := by kernel_rfl
theorem body43 : Try.f43.body = some (.seq (.region 0 (regOf Try.f43 0) false) (.seq (.region 1 (regOf Try.f43 1) false) (.seq (.region 2 (regOf Try.f43 2) false) (.ret)))) := by kernel_rfl
theorem p43_0_0 : pj (regOf Try.f43 0) 0 = some (some 2, .assign (.const (.string { data := #[] })), 9, none) := by kernel_rfl
theorem p43_1_0 : pj (regOf Try.f43 1) 0 = some (some 6, .move (.tmp 0), 3, none) := by kernel_rfl
theorem p43_1_1 : pj (regOf Try.f43 1) 1 = some (some 7, .call { callee := .value (.func 93), args := #[.tmp 6], argTypes := #[3] }, 158, none) := by kernel_rfl
theorem cl93 : callable Try.f93 = true := by kernel_rfl
theorem p43_1_2 : pj (regOf Try.f43 1) 2 = some (some 5, .move (.tmp 7), 158, none) := by kernel_rfl
theorem p43_1_3 : pj (regOf Try.f43 1) 3 = some (some 8, .extract (.tmp 5) 0, 157, none) := by kernel_rfl
theorem p43_1_4 : pj (regOf Try.f43 1) 4 = some (some 9, .extract (.tmp 5) 1, 4, none) := by kernel_rfl
theorem p43_1_5 : pj (regOf Try.f43 1) 5 = some (some 3, .alloc 157, 0, none) := by kernel_rfl
theorem tZ157 : (Try.prog.info? 157).bind (·.zero) = some (Value.agg #[Value.string ByteArray.empty, Value.slice none 0 0, Value.int .i64 0, Value.bool false, Value.int .i64 0, Value.int .i64 0]) := by kernel_rfl
theorem p43_1_6 : pj (regOf Try.f43 1) 6 = some (none, .store 157 (.tmp 3) (.tmp 8), 0, none) := by kernel_rfl
theorem tS157 : (Try.prog.info? 157).map (·.size) = some 6 := by kernel_rfl
theorem p43_1_7 : pj (regOf Try.f43 1) 7 = some (some 4, .assign (.tmp 9), 4, none) := by kernel_rfl
theorem p43_2_0 : pj (regOf Try.f43 2) 0 = some (some 10, .fieldAddr 157 (.tmp 3) 0, 0, none) := by kernel_rfl
theorem tS9 : (Try.prog.info? 9).map (·.size) = some 1 := by kernel_rfl
theorem p43_2_1 : pj (regOf Try.f43 2) 1 = some (some 11, .load 9 (.tmp 10), 9, none) := by kernel_rfl
theorem tA9 : (Try.prog.underlying 9).map aggD = some false := by kernel_rfl
theorem p43_2_2 : pj (regOf Try.f43 2) 2 = some (some 2, .assign (.tmp 11), 9, none) := by kernel_rfl
set_option maxHeartbeats 4000000 in
theorem word_any (kk : Int) (w : World) : Calls Try.prog 43 #[.int .i64 kk] w fun e w' => e = .returned (.string (wordO kk)) ∧ Kp w w' (fun _ => False) := by
  have K_0 := Kp.refl w (fun _ => False)
  refine enter (args := [Value.int .i64 kk]) (n := 12) Try.func43 body43 rfl rfl rfl ?_
  intro a hE
  refine c_reg R43_0_l ?_
  refine q0 p43_0_0 hE (st_assign rfl) ?_
  clear hE a; intro a hE
  refine p_nil ?_
  refine x_norm ?_
  rcases Decidable.em (0 ≤ kk ∧ kk ≤ 9) with hKN | hKN
  ·
    obtain ⟨k, rfl⟩ : ∃ k : Nat, kk = (k : Int) := ⟨kk.toNat, by omega⟩
    have hk9 : k ≤ 9 := by omega
    refine c_reg R43_1_l ?_
    refine q0 p43_1_0 hE (st_move rfl) ?_
    clear hE a; intro a hE
    refine p_cons (s_call (xs := [Operand.tmp 6]) (args := [Value.int .i64 (k : Int)]) p43_1_1 hE wn_none rfl rfl Try.func93 cl93 (of_ok k hk9 _) ?_)
    rintro e w1 ⟨A1, c1, rfl, hF1, hc1, hk⟩
    replace K_0 := K_0.then_ hk (fun _ h => h.elim)
    refine ⟨_, rfl, ?_⟩
    clear hE a; intro a hE
    refine q0 p43_1_2 hE (st_move rfl) ?_
    clear hE a; intro a hE
    refine q0 p43_1_3 hE (st_extract rfl rfl) ?_
    clear hE a; intro a hE
    refine q0 p43_1_4 hE (st_extract rfl rfl) ?_
    clear hE a; intro a hE
    refine p_cons (s_alloc p43_1_5 hE wn_none rfl tZ157 ?_)
    clear hE a; intro g2 w3 z4 B_g2 hk a hE
    replace B_g2 : w3.heap[g2]? = some (.cells #[Value.string ByteArray.empty, Value.slice none 0 0, Value.int .i64 0, Value.bool false, Value.int .i64 0, Value.int .i64 0] 157 (0, 0)) := B_g2
    have z_0_g2 := Nat.le_trans K_0.kept.1 z4
    replace K_0 := K_0.then_ hk (fun _ h => h.elim)
    clear hk
    refine p_cons (s_store (off := 0) (k := 6) (cs' := #[Value.string (wordF k), Value.slice A1 ((sizesF k).length) c1, Value.int .i64 (behindF k), Value.bool (addrF k), Value.int .i64 (lenF k), Value.int .i64 (zeroF k)]) p43_1_6 hE wn_none tS157 rfl rfl rfl rfl B_g2 (Nat.le_of_ble_eq_true rfl) rfl ?_)
    intro w5 B_g2' hk
    replace K_0 := K_0.then_ hk (fun k h => by rw [show k = g2 from h]; exact Or.inr z_0_g2)
    replace B_g2 := B_g2'
    clear hk
    refine q0 p43_1_7 hE (st_assign rfl) ?_
    clear hE a; intro a hE
    refine p_nil ?_
    refine x_norm ?_
    refine c_reg R43_2_l ?_
    refine q0 p43_2_0 hE (st_fieldAddr Try.underlying157 rfl tS9 rfl rfl) ?_
    clear hE a; intro a hE
    refine q0 p43_2_1 hE (st_load1 tA9 rfl ((blk_cell B_g2 0).trans rfl)) ?_
    clear hE a; intro a hE
    refine q0 p43_2_2 hE (st_assign rfl) ?_
    clear hE a; intro a hE
    refine p_nil ?_
    refine x_norm ?_
    refine wp_ret ?_
    refine ret_one (v := Value.string (wordF k)) rfl hE (.tmp rfl .nil) ?_
    exact ⟨by unfold wordO; rw [if_pos ⟨by omega, by omega⟩]; rfl, K_0⟩
  ·
    refine c_reg R43_1_l ?_
    refine q0 p43_1_0 hE (st_move rfl) ?_
    clear hE a; intro a hE
    refine p_cons (s_call (xs := [Operand.tmp 6]) (args := [Value.int .i64 kk]) p43_1_1 hE wn_none rfl rfl Try.func93 cl93 (of_no kk hKN _) ?_)
    rintro e w6 ⟨rfl, hk⟩
    replace K_0 := K_0.then_ hk (fun _ h => h.elim)
    refine ⟨_, rfl, ?_⟩
    clear hE a; intro a hE
    refine q0 p43_1_2 hE (st_move rfl) ?_
    clear hE a; intro a hE
    refine q0 p43_1_3 hE (st_extract rfl rfl) ?_
    clear hE a; intro a hE
    refine q0 p43_1_4 hE (st_extract rfl rfl) ?_
    clear hE a; intro a hE
    refine p_cons (s_alloc p43_1_5 hE wn_none rfl tZ157 ?_)
    clear hE a; intro g7 w8 z9 B_g7 hk a hE
    replace B_g7 : w8.heap[g7]? = some (.cells #[Value.string ByteArray.empty, Value.slice none 0 0, Value.int .i64 0, Value.bool false, Value.int .i64 0, Value.int .i64 0] 157 (0, 0)) := B_g7
    have z_0_g7 := Nat.le_trans K_0.kept.1 z9
    replace K_0 := K_0.then_ hk (fun _ h => h.elim)
    clear hk
    refine p_cons (s_store (off := 0) (k := 6) (cs' := #[Value.string ByteArray.empty, Value.slice none 0 0, Value.int .i64 0, Value.bool false, Value.int .i64 0, Value.int .i64 0]) p43_1_6 hE wn_none tS157 rfl rfl rfl rfl B_g7 (Nat.le_of_ble_eq_true rfl) rfl ?_)
    intro w10 B_g7' hk
    replace K_0 := K_0.then_ hk (fun k h => by rw [show k = g7 from h]; exact Or.inr z_0_g7)
    replace B_g7 := B_g7'
    clear hk
    refine q0 p43_1_7 hE (st_assign rfl) ?_
    clear hE a; intro a hE
    refine p_nil ?_
    refine x_norm ?_
    refine c_reg R43_2_l ?_
    refine q0 p43_2_0 hE (st_fieldAddr Try.underlying157 rfl tS9 rfl rfl) ?_
    clear hE a; intro a hE
    refine q0 p43_2_1 hE (st_load1 tA9 rfl ((blk_cell B_g7 0).trans rfl)) ?_
    clear hE a; intro a hE
    refine q0 p43_2_2 hE (st_assign rfl) ?_
    clear hE a; intro a hE
    refine p_nil ?_
    refine x_norm ?_
    refine wp_ret ?_
    refine ret_one (v := Value.string ByteArray.empty) rfl hE (.tmp rfl .nil) ?_
    exact ⟨by unfold wordO; rw [if_neg hKN], K_0⟩
theorem R44_0_l : List.range (regOf Try.f44 0).size = [0] := by kernel_rfl
theorem R44_1_l : List.range (regOf Try.f44 1).size = [0, 1, 2] := by kernel_rfl
theorem R44_2_l : List.range (regOf Try.f44 2).size = [0, 1, 2, 3, 4, 5] := by kernel_rfl
theorem R44_3_l : List.range (regOf Try.f44 3).size = [0] := by kernel_rfl
theorem R44_4_l : List.range (regOf Try.f44 4).size = [0, 1, 2, 3] := by kernel_rfl
theorem body44 : Try.f44.body = some (.seq (.region 0 (regOf Try.f44 0) false) (.seq (.region 1 (regOf Try.f44 1) false) (.seq (.seq (.region 2 (regOf Try.f44 2) false) (.cond (Operand.tmp 10) (.seq (.region 3 (regOf Try.f44 3) false) (.ret)) (.skip))) (.seq (.region 4 (regOf Try.f44 4) false) (.ret))))) := by kernel_rfl
theorem p44_0_0 : pj (regOf Try.f44 0) 0 = some (some 2, .assign (.const (.string { data := #[] })), 9, none) := by kernel_rfl
theorem p44_1_0 : pj (regOf Try.f44 1) 0 = some (some 4, .build 160 #[(0, .const (.string { data := #[112, 97, 100] })), (1, .const (.string { data := #[112, 97, 100, 115] })), (2, .const (.string { data := #[109, 101, 116, 114, 105, 99] })), (3, .const (.string { data := #[114, 111, 117, 116, 101] })), (4, .const (.string { data := #[99, 111, 110, 102, 105, 103] })), (5, .const (.string { data := #[116, 97, 114, 103, 101, 116] })), (6, .const (.string { data := #[116, 114, 97, 110, 115, 105, 116] })), (7, .const (.string { data := #[115, 111, 108, 105, 99, 105, 116, 101, 100] })), (8, .const (.string { data := #[112, 114, 101, 102, 105, 120] })), (9, .const (.string { data := #[100, 101, 115, 99, 114, 105, 112, 116, 111, 114] }))], 160, none) := by kernel_rfl
theorem p44_1_1 : pj (regOf Try.f44 1) 1 = some (some 3, .alloc 160, 0, none) := by kernel_rfl
theorem tZ160 : (Try.prog.info? 160).bind (·.zero) = some (Value.agg #[Value.string ByteArray.empty, Value.string ByteArray.empty, Value.string ByteArray.empty, Value.string ByteArray.empty, Value.string ByteArray.empty, Value.string ByteArray.empty, Value.string ByteArray.empty, Value.string ByteArray.empty, Value.string ByteArray.empty, Value.string ByteArray.empty]) := by kernel_rfl
theorem p44_1_2 : pj (regOf Try.f44 1) 2 = some (none, .store 160 (.tmp 3) (.tmp 4), 0, none) := by kernel_rfl
theorem tS160 : (Try.prog.info? 160).map (·.size) = some 10 := by kernel_rfl
theorem p44_2_0 : pj (regOf Try.f44 2) 0 = some (some 5, .move (.tmp 0), 3, none) := by kernel_rfl
theorem p44_2_1 : pj (regOf Try.f44 2) 1 = some (some 6, .binOp .lss 3 (.tmp 5) (.const (.int .i64 0)) 3, 4, none) := by kernel_rfl
theorem p44_2_2 : pj (regOf Try.f44 2) 2 = some (some 7, .move (.tmp 6), 4, none) := by kernel_rfl
theorem p44_2_3 : pj (regOf Try.f44 2) 3 = some (some 8, .move (.tmp 0), 3, some (2, false)) := by kernel_rfl
theorem g44_2_2 : dstOf (regOf Try.f44 2) 2 = some 7 := by kernel_rfl
theorem p44_2_4 : pj (regOf Try.f44 2) 4 = some (some 9, .binOp .gtr 3 (.tmp 8) (.const (.int .i64 9)) 3, 4, some (2, false)) := by kernel_rfl
theorem p44_2_5 : pj (regOf Try.f44 2) 5 = some (some 10, .pick (.tmp 7) (.const (.bool true)) (.tmp 9), 4, none) := by kernel_rfl
theorem p44_4_0 : pj (regOf Try.f44 4) 0 = some (some 11, .move (.tmp 0), 3, none) := by kernel_rfl
theorem p44_4_1 : pj (regOf Try.f44 4) 1 = some (some 12, .indexAddr 160 (.tmp 3) (.tmp 11), 0, none) := by kernel_rfl
theorem p44_4_2 : pj (regOf Try.f44 4) 2 = some (some 13, .load 9 (.tmp 12), 9, none) := by kernel_rfl
theorem p44_4_3 : pj (regOf Try.f44 4) 3 = some (some 2, .assign (.tmp 13), 9, none) := by kernel_rfl
set_option maxHeartbeats 4000000 in
theorem rword_0 (w : World) : Calls Try.prog 44 #[.int .i64 0] w fun e w' => e = .returned (.string ({ data := #[112, 97, 100] } : ByteArray)) ∧ Kp w w' (fun _ => False) := by
  have K_0 := Kp.refl w (fun _ => False)
  refine enter (args := [Value.int .i64 0]) (n := 14) Try.func44 body44 rfl rfl rfl ?_
  intro a hE
  refine c_reg R44_0_l ?_
  refine q0 p44_0_0 hE (st_assign rfl) ?_
  clear hE a; intro a hE
  refine p_nil ?_
  refine x_norm ?_
  refine c_reg R44_1_l ?_
  refine q0 p44_1_0 hE (st_build (xs := [(0, Operand.const (Value.string { data := #[112, 97, 100] })), (1, Operand.const (Value.string { data := #[112, 97, 100, 115] })), (2, Operand.const (Value.string { data := #[109, 101, 116, 114, 105, 99] })), (3, Operand.const (Value.string { data := #[114, 111, 117, 116, 101] })), (4, Operand.const (Value.string { data := #[99, 111, 110, 102, 105, 103] })), (5, Operand.const (Value.string { data := #[116, 97, 114, 103, 101, 116] })), (6, Operand.const (Value.string { data := #[116, 114, 97, 110, 115, 105, 116] })), (7, Operand.const (Value.string { data := #[115, 111, 108, 105, 99, 105, 116, 101, 100] })), (8, Operand.const (Value.string { data := #[112, 114, 101, 102, 105, 120] })), (9, Operand.const (Value.string { data := #[100, 101, 115, 99, 114, 105, 112, 116, 111, 114] }))]) (vs := [(0, (Value.string { data := #[112, 97, 100] })), (1, (Value.string { data := #[112, 97, 100, 115] })), (2, (Value.string { data := #[109, 101, 116, 114, 105, 99] })), (3, (Value.string { data := #[114, 111, 117, 116, 101] })), (4, (Value.string { data := #[99, 111, 110, 102, 105, 103] })), (5, (Value.string { data := #[116, 97, 114, 103, 101, 116] })), (6, (Value.string { data := #[116, 114, 97, 110, 115, 105, 116] })), (7, (Value.string { data := #[115, 111, 108, 105, 99, 105, 116, 101, 100] })), (8, (Value.string { data := #[112, 114, 101, 102, 105, 120] })), (9, (Value.string { data := #[100, 101, 115, 99, 114, 105, 112, 116, 111, 114] }))]) (cs := #[(Value.string { data := #[112, 97, 100] }), (Value.string { data := #[112, 97, 100, 115] }), (Value.string { data := #[109, 101, 116, 114, 105, 99] }), (Value.string { data := #[114, 111, 117, 116, 101] }), (Value.string { data := #[99, 111, 110, 102, 105, 103] }), (Value.string { data := #[116, 97, 114, 103, 101, 116] }), (Value.string { data := #[116, 114, 97, 110, 115, 105, 116] }), (Value.string { data := #[115, 111, 108, 105, 99, 105, 116, 101, 100] }), (Value.string { data := #[112, 114, 101, 102, 105, 120] }), (Value.string { data := #[100, 101, 115, 99, 114, 105, 112, 116, 111, 114] })]) rfl (by kernel_rfl)) ?_
  clear hE a; intro a hE
  refine p_cons (s_alloc p44_1_1 hE wn_none rfl tZ160 ?_)
  clear hE a; intro g1 w2 z3 B_g1 hk a hE
  replace B_g1 : w2.heap[g1]? = some (.cells #[Value.string ByteArray.empty, Value.string ByteArray.empty, Value.string ByteArray.empty, Value.string ByteArray.empty, Value.string ByteArray.empty, Value.string ByteArray.empty, Value.string ByteArray.empty, Value.string ByteArray.empty, Value.string ByteArray.empty, Value.string ByteArray.empty] 160 (0, 0)) := B_g1
  have z_0_g1 := Nat.le_trans K_0.kept.1 z3
  replace K_0 := K_0.then_ hk (fun _ h => h.elim)
  clear hk
  refine p_cons (s_store (off := 0) (k := 10) (cs' := #[(Value.string { data := #[112, 97, 100] }), (Value.string { data := #[112, 97, 100, 115] }), (Value.string { data := #[109, 101, 116, 114, 105, 99] }), (Value.string { data := #[114, 111, 117, 116, 101] }), (Value.string { data := #[99, 111, 110, 102, 105, 103] }), (Value.string { data := #[116, 97, 114, 103, 101, 116] }), (Value.string { data := #[116, 114, 97, 110, 115, 105, 116] }), (Value.string { data := #[115, 111, 108, 105, 99, 105, 116, 101, 100] }), (Value.string { data := #[112, 114, 101, 102, 105, 120] }), (Value.string { data := #[100, 101, 115, 99, 114, 105, 112, 116, 111, 114] })]) p44_1_2 hE wn_none tS160 rfl rfl rfl rfl B_g1 (Nat.le_of_ble_eq_true rfl) rfl ?_)
  intro w4 B_g1' hk
  replace K_0 := K_0.then_ hk (fun k h => by rw [show k = g1 from h]; exact Or.inr z_0_g1)
  replace B_g1 := B_g1'
  clear hk
  refine p_nil ?_
  refine x_norm ?_
  refine wp_seq ?_
  refine c_reg R44_2_l ?_
  refine q0 p44_2_0 hE (st_move rfl) ?_
  clear hE a; intro a hE
  refine q0 p44_2_1 hE (st_lss (b := false) rfl rfl (by decide)) ?_
  clear hE a; intro a hE
  refine q0 p44_2_2 hE (st_move rfl) ?_
  clear hE a; intro a hE
  refine p_cons (s_still p44_2_3 hE (wn_some g44_2_2 rfl rfl) rfl (st_move rfl) ?_)
  clear hE a; intro a hE
  refine p_cons (s_still p44_2_4 hE (wn_some g44_2_2 rfl rfl) rfl (st_gtr (b := false) rfl rfl (by decide)) ?_)
  clear hE a; intro a hE
  refine q0 p44_2_5 hE (st_pick rfl rfl) ?_
  clear hE a; intro a hE
  refine p_nil ?_
  refine x_norm ?_
  refine c_cond (t := false) hE rfl ?_
  refine wp_skip ?_
  refine x_norm ?_
  refine c_reg R44_4_l ?_
  refine q0 p44_4_0 hE (st_move rfl) ?_
  clear hE a; intro a hE
  refine q0 p44_4_1 hE (st_indexAddrA (l := 10) (i := 0) Try.underlying160 tS9 rfl rfl (by decide) rfl) ?_
  clear hE a; intro a hE
  refine q0 p44_4_2 hE (st_load1 tA9 rfl ((blk_cell B_g1 0).trans rfl)) ?_
  clear hE a; intro a hE
  refine q0 p44_4_3 hE (st_assign rfl) ?_
  clear hE a; intro a hE
  refine p_nil ?_
  refine x_norm ?_
  refine wp_ret ?_
  refine ret_one (v := (Value.string { data := #[112, 97, 100] })) rfl hE (.tmp rfl .nil) ?_
  exact ⟨rfl, K_0⟩

set_option maxHeartbeats 4000000 in
theorem rword_1 (w : World) : Calls Try.prog 44 #[.int .i64 1] w fun e w' => e = .returned (.string ({ data := #[112, 97, 100, 115] } : ByteArray)) ∧ Kp w w' (fun _ => False) := by
  have K_0 := Kp.refl w (fun _ => False)
  refine enter (args := [Value.int .i64 1]) (n := 14) Try.func44 body44 rfl rfl rfl ?_
  intro a hE
  refine c_reg R44_0_l ?_
  refine q0 p44_0_0 hE (st_assign rfl) ?_
  clear hE a; intro a hE
  refine p_nil ?_
  refine x_norm ?_
  refine c_reg R44_1_l ?_
  refine q0 p44_1_0 hE (st_build (xs := [(0, Operand.const (Value.string { data := #[112, 97, 100] })), (1, Operand.const (Value.string { data := #[112, 97, 100, 115] })), (2, Operand.const (Value.string { data := #[109, 101, 116, 114, 105, 99] })), (3, Operand.const (Value.string { data := #[114, 111, 117, 116, 101] })), (4, Operand.const (Value.string { data := #[99, 111, 110, 102, 105, 103] })), (5, Operand.const (Value.string { data := #[116, 97, 114, 103, 101, 116] })), (6, Operand.const (Value.string { data := #[116, 114, 97, 110, 115, 105, 116] })), (7, Operand.const (Value.string { data := #[115, 111, 108, 105, 99, 105, 116, 101, 100] })), (8, Operand.const (Value.string { data := #[112, 114, 101, 102, 105, 120] })), (9, Operand.const (Value.string { data := #[100, 101, 115, 99, 114, 105, 112, 116, 111, 114] }))]) (vs := [(0, (Value.string { data := #[112, 97, 100] })), (1, (Value.string { data := #[112, 97, 100, 115] })), (2, (Value.string { data := #[109, 101, 116, 114, 105, 99] })), (3, (Value.string { data := #[114, 111, 117, 116, 101] })), (4, (Value.string { data := #[99, 111, 110, 102, 105, 103] })), (5, (Value.string { data := #[116, 97, 114, 103, 101, 116] })), (6, (Value.string { data := #[116, 114, 97, 110, 115, 105, 116] })), (7, (Value.string { data := #[115, 111, 108, 105, 99, 105, 116, 101, 100] })), (8, (Value.string { data := #[112, 114, 101, 102, 105, 120] })), (9, (Value.string { data := #[100, 101, 115, 99, 114, 105, 112, 116, 111, 114] }))]) (cs := #[(Value.string { data := #[112, 97, 100] }), (Value.string { data := #[112, 97, 100, 115] }), (Value.string { data := #[109, 101, 116, 114, 105, 99] }), (Value.string { data := #[114, 111, 117, 116, 101] }), (Value.string { data := #[99, 111, 110, 102, 105, 103] }), (Value.string { data := #[116, 97, 114, 103, 101, 116] }), (Value.string { data := #[116, 114, 97, 110, 115, 105, 116] }), (Value.string { data := #[115, 111, 108, 105, 99, 105, 116, 101, 100] }), (Value.string { data := #[112, 114, 101, 102, 105, 120] }), (Value.string { data := #[100, 101, 115, 99, 114, 105, 112, 116, 111, 114] })]) rfl (by kernel_rfl)) ?_
  clear hE a; intro a hE
  refine p_cons (s_alloc p44_1_1 hE wn_none rfl tZ160 ?_)
  clear hE a; intro g1 w2 z3 B_g1 hk a hE
  replace B_g1 : w2.heap[g1]? = some (.cells #[Value.string ByteArray.empty, Value.string ByteArray.empty, Value.string ByteArray.empty, Value.string ByteArray.empty, Value.string ByteArray.empty, Value.string ByteArray.empty, Value.string ByteArray.empty, Value.string ByteArray.empty, Value.string ByteArray.empty, Value.string ByteArray.empty] 160 (0, 0)) := B_g1
  have z_0_g1 := Nat.le_trans K_0.kept.1 z3
  replace K_0 := K_0.then_ hk (fun _ h => h.elim)
  clear hk
  refine p_cons (s_store (off := 0) (k := 10) (cs' := #[(Value.string { data := #[112, 97, 100] }), (Value.string { data := #[112, 97, 100, 115] }), (Value.string { data := #[109, 101, 116, 114, 105, 99] }), (Value.string { data := #[114, 111, 117, 116, 101] }), (Value.string { data := #[99, 111, 110, 102, 105, 103] }), (Value.string { data := #[116, 97, 114, 103, 101, 116] }), (Value.string { data := #[116, 114, 97, 110, 115, 105, 116] }), (Value.string { data := #[115, 111, 108, 105, 99, 105, 116, 101, 100] }), (Value.string { data := #[112, 114, 101, 102, 105, 120] }), (Value.string { data := #[100, 101, 115, 99, 114, 105, 112, 116, 111, 114] })]) p44_1_2 hE wn_none tS160 rfl rfl rfl rfl B_g1 (Nat.le_of_ble_eq_true rfl) rfl ?_)
  intro w4 B_g1' hk
  replace K_0 := K_0.then_ hk (fun k h => by rw [show k = g1 from h]; exact Or.inr z_0_g1)
  replace B_g1 := B_g1'
  clear hk
  refine p_nil ?_
  refine x_norm ?_
  refine wp_seq ?_
  refine c_reg R44_2_l ?_
  refine q0 p44_2_0 hE (st_move rfl) ?_
  clear hE a; intro a hE
  refine q0 p44_2_1 hE (st_lss (b := false) rfl rfl (by decide)) ?_
  clear hE a; intro a hE
  refine q0 p44_2_2 hE (st_move rfl) ?_
  clear hE a; intro a hE
  refine p_cons (s_still p44_2_3 hE (wn_some g44_2_2 rfl rfl) rfl (st_move rfl) ?_)
  clear hE a; intro a hE
  refine p_cons (s_still p44_2_4 hE (wn_some g44_2_2 rfl rfl) rfl (st_gtr (b := false) rfl rfl (by decide)) ?_)
  clear hE a; intro a hE
  refine q0 p44_2_5 hE (st_pick rfl rfl) ?_
  clear hE a; intro a hE
  refine p_nil ?_
  refine x_norm ?_
  refine c_cond (t := false) hE rfl ?_
  refine wp_skip ?_
  refine x_norm ?_
  refine c_reg R44_4_l ?_
  refine q0 p44_4_0 hE (st_move rfl) ?_
  clear hE a; intro a hE
  refine q0 p44_4_1 hE (st_indexAddrA (l := 10) (i := 1) Try.underlying160 tS9 rfl rfl (by decide) rfl) ?_
  clear hE a; intro a hE
  refine q0 p44_4_2 hE (st_load1 tA9 rfl ((blk_cell B_g1 1).trans rfl)) ?_
  clear hE a; intro a hE
  refine q0 p44_4_3 hE (st_assign rfl) ?_
  clear hE a; intro a hE
  refine p_nil ?_
  refine x_norm ?_
  refine wp_ret ?_
  refine ret_one (v := (Value.string { data := #[112, 97, 100, 115] })) rfl hE (.tmp rfl .nil) ?_
  exact ⟨rfl, K_0⟩

set_option maxHeartbeats 4000000 in
theorem rword_2 (w : World) : Calls Try.prog 44 #[.int .i64 2] w fun e w' => e = .returned (.string ({ data := #[109, 101, 116, 114, 105, 99] } : ByteArray)) ∧ Kp w w' (fun _ => False) := by
  have K_0 := Kp.refl w (fun _ => False)
  refine enter (args := [Value.int .i64 2]) (n := 14) Try.func44 body44 rfl rfl rfl ?_
  intro a hE
  refine c_reg R44_0_l ?_
  refine q0 p44_0_0 hE (st_assign rfl) ?_
  clear hE a; intro a hE
  refine p_nil ?_
  refine x_norm ?_
  refine c_reg R44_1_l ?_
  refine q0 p44_1_0 hE (st_build (xs := [(0, Operand.const (Value.string { data := #[112, 97, 100] })), (1, Operand.const (Value.string { data := #[112, 97, 100, 115] })), (2, Operand.const (Value.string { data := #[109, 101, 116, 114, 105, 99] })), (3, Operand.const (Value.string { data := #[114, 111, 117, 116, 101] })), (4, Operand.const (Value.string { data := #[99, 111, 110, 102, 105, 103] })), (5, Operand.const (Value.string { data := #[116, 97, 114, 103, 101, 116] })), (6, Operand.const (Value.string { data := #[116, 114, 97, 110, 115, 105, 116] })), (7, Operand.const (Value.string { data := #[115, 111, 108, 105, 99, 105, 116, 101, 100] })), (8, Operand.const (Value.string { data := #[112, 114, 101, 102, 105, 120] })), (9, Operand.const (Value.string { data := #[100, 101, 115, 99, 114, 105, 112, 116, 111, 114] }))]) (vs := [(0, (Value.string { data := #[112, 97, 100] })), (1, (Value.string { data := #[112, 97, 100, 115] })), (2, (Value.string { data := #[109, 101, 116, 114, 105, 99] })), (3, (Value.string { data := #[114, 111, 117, 116, 101] })), (4, (Value.string { data := #[99, 111, 110, 102, 105, 103] })), (5, (Value.string { data := #[116, 97, 114, 103, 101, 116] })), (6, (Value.string { data := #[116, 114, 97, 110, 115, 105, 116] })), (7, (Value.string { data := #[115, 111, 108, 105, 99, 105, 116, 101, 100] })), (8, (Value.string { data := #[112, 114, 101, 102, 105, 120] })), (9, (Value.string { data := #[100, 101, 115, 99, 114, 105, 112, 116, 111, 114] }))]) (cs := #[(Value.string { data := #[112, 97, 100] }), (Value.string { data := #[112, 97, 100, 115] }), (Value.string { data := #[109, 101, 116, 114, 105, 99] }), (Value.string { data := #[114, 111, 117, 116, 101] }), (Value.string { data := #[99, 111, 110, 102, 105, 103] }), (Value.string { data := #[116, 97, 114, 103, 101, 116] }), (Value.string { data := #[116, 114, 97, 110, 115, 105, 116] }), (Value.string { data := #[115, 111, 108, 105, 99, 105, 116, 101, 100] }), (Value.string { data := #[112, 114, 101, 102, 105, 120] }), (Value.string { data := #[100, 101, 115, 99, 114, 105, 112, 116, 111, 114] })]) rfl (by kernel_rfl)) ?_
  clear hE a; intro a hE
  refine p_cons (s_alloc p44_1_1 hE wn_none rfl tZ160 ?_)
  clear hE a; intro g1 w2 z3 B_g1 hk a hE
  replace B_g1 : w2.heap[g1]? = some (.cells #[Value.string ByteArray.empty, Value.string ByteArray.empty, Value.string ByteArray.empty, Value.string ByteArray.empty, Value.string ByteArray.empty, Value.string ByteArray.empty, Value.string ByteArray.empty, Value.string ByteArray.empty, Value.string ByteArray.empty, Value.string ByteArray.empty] 160 (0, 0)) := B_g1
  have z_0_g1 := Nat.le_trans K_0.kept.1 z3
  replace K_0 := K_0.then_ hk (fun _ h => h.elim)
  clear hk
  refine p_cons (s_store (off := 0) (k := 10) (cs' := #[(Value.string { data := #[112, 97, 100] }), (Value.string { data := #[112, 97, 100, 115] }), (Value.string { data := #[109, 101, 116, 114, 105, 99] }), (Value.string { data := #[114, 111, 117, 116, 101] }), (Value.string { data := #[99, 111, 110, 102, 105, 103] }), (Value.string { data := #[116, 97, 114, 103, 101, 116] }), (Value.string { data := #[116, 114, 97, 110, 115, 105, 116] }), (Value.string { data := #[115, 111, 108, 105, 99, 105, 116, 101, 100] }), (Value.string { data := #[112, 114, 101, 102, 105, 120] }), (Value.string { data := #[100, 101, 115, 99, 114, 105, 112, 116, 111, 114] })]) p44_1_2 hE wn_none tS160 rfl rfl rfl rfl B_g1 (Nat.le_of_ble_eq_true rfl) rfl ?_)
  intro w4 B_g1' hk
  replace K_0 := K_0.then_ hk (fun k h => by rw [show k = g1 from h]; exact Or.inr z_0_g1)
  replace B_g1 := B_g1'
  clear hk
  refine p_nil ?_
  refine x_norm ?_
  refine wp_seq ?_
  refine c_reg R44_2_l ?_
  refine q0 p44_2_0 hE (st_move rfl) ?_
  clear hE a; intro a hE
  refine q0 p44_2_1 hE (st_lss (b := false) rfl rfl (by decide)) ?_
  clear hE a; intro a hE
  refine q0 p44_2_2 hE (st_move rfl) ?_
  clear hE a; intro a hE
  refine p_cons (s_still p44_2_3 hE (wn_some g44_2_2 rfl rfl) rfl (st_move rfl) ?_)
  clear hE a; intro a hE
  refine p_cons (s_still p44_2_4 hE (wn_some g44_2_2 rfl rfl) rfl (st_gtr (b := false) rfl rfl (by decide)) ?_)
  clear hE a; intro a hE
  refine q0 p44_2_5 hE (st_pick rfl rfl) ?_
  clear hE a; intro a hE
  refine p_nil ?_
  refine x_norm ?_
  refine c_cond (t := false) hE rfl ?_
  refine wp_skip ?_
  refine x_norm ?_
  refine c_reg R44_4_l ?_
  refine q0 p44_4_0 hE (st_move rfl) ?_
  clear hE a; intro a hE
  refine q0 p44_4_1 hE (st_indexAddrA (l := 10) (i := 2) Try.underlying160 tS9 rfl rfl (by decide) rfl) ?_
  clear hE a; intro a hE
  refine q0 p44_4_2 hE (st_load1 tA9 rfl ((blk_cell B_g1 2).trans rfl)) ?_
  clear hE a; intro a hE
  refine q0 p44_4_3 hE (st_assign rfl) ?_
  clear hE a; intro a hE
  refine p_nil ?_
  refine x_norm ?_
  refine wp_ret ?_
  refine ret_one (v := (Value.string { data := #[109, 101, 116, 114, 105, 99] })) rfl hE (.tmp rfl .nil) ?_
  exact ⟨rfl, K_0⟩

set_option maxHeartbeats 4000000 in
theorem rword_3 (w : World) : Calls Try.prog 44 #[.int .i64 3] w fun e w' => e = .returned (.string ({ data := #[114, 111, 117, 116, 101] } : ByteArray)) ∧ Kp w w' (fun _ => False) := by
  have K_0 := Kp.refl w (fun _ => False)
  refine enter (args := [Value.int .i64 3]) (n := 14) Try.func44 body44 rfl rfl rfl ?_
  intro a hE
  refine c_reg R44_0_l ?_
  refine q0 p44_0_0 hE (st_assign rfl) ?_
  clear hE a; intro a hE
  refine p_nil ?_
  refine x_norm ?_
  refine c_reg R44_1_l ?_
  refine q0 p44_1_0 hE (st_build (xs := [(0, Operand.const (Value.string { data := #[112, 97, 100] })), (1, Operand.const (Value.string { data := #[112, 97, 100, 115] })), (2, Operand.const (Value.string { data := #[109, 101, 116, 114, 105, 99] })), (3, Operand.const (Value.string { data := #[114, 111, 117, 116, 101] })), (4, Operand.const (Value.string { data := #[99, 111, 110, 102, 105, 103] })), (5, Operand.const (Value.string { data := #[116, 97, 114, 103, 101, 116] })), (6, Operand.const (Value.string { data := #[116, 114, 97, 110, 115, 105, 116] })), (7, Operand.const (Value.string { data := #[115, 111, 108, 105, 99, 105, 116, 101, 100] })), (8, Operand.const (Value.string { data := #[112, 114, 101, 102, 105, 120] })), (9, Operand.const (Value.string { data := #[100, 101, 115, 99, 114, 105, 112, 116, 111, 114] }))]) (vs := [(0, (Value.string { data := #[112, 97, 100] })), (1, (Value.string { data := #[112, 97, 100, 115] })), (2, (Value.string { data := #[109, 101, 116, 114, 105, 99] })), (3, (Value.string { data := #[114, 111, 117, 116, 101] })), (4, (Value.string { data := #[99, 111, 110, 102, 105, 103] })), (5, (Value.string { data := #[116, 97, 114, 103, 101, 116] })), (6, (Value.string { data := #[116, 114, 97, 110, 115, 105, 116] })), (7, (Value.string { data := #[115, 111, 108, 105, 99, 105, 116, 101, 100] })), (8, (Value.string { data := #[112, 114, 101, 102, 105, 120] })), (9, (Value.string { data := #[100, 101, 115, 99, 114, 105, 112, 116, 111, 114] }))]) (cs := #[(Value.string { data := #[112, 97, 100] }), (Value.string { data := #[112, 97, 100, 115] }), (Value.string { data := #[109, 101, 116, 114, 105, 99] }), (Value.string { data := #[114, 111, 117, 116, 101] }), (Value.string { data := #[99, 111, 110, 102, 105, 103] }), (Value.string { data := #[116, 97, 114, 103, 101, 116] }), (Value.string { data := #[116, 114, 97, 110, 115, 105, 116] }), (Value.string { data := #[115, 111, 108, 105, 99, 105, 116, 101, 100] }), (Value.string { data := #[112, 114, 101, 102, 105, 120] }), (Value.string { data := #[100, 101, 115, 99, 114, 105, 112, 116, 111, 114] })]) rfl (by kernel_rfl)) ?_
  clear hE a; intro a hE
  refine p_cons (s_alloc p44_1_1 hE wn_none rfl tZ160 ?_)
  clear hE a; intro g1 w2 z3 B_g1 hk a hE
  replace B_g1 : w2.heap[g1]? = some (.cells #[Value.string ByteArray.empty, Value.string ByteArray.empty, Value.string ByteArray.empty, Value.string ByteArray.empty, Value.string ByteArray.empty, Value.string ByteArray.empty, Value.string ByteArray.empty, Value.string ByteArray.empty, Value.string ByteArray.empty, Value.string ByteArray.empty] 160 (0, 0)) := B_g1
  have z_0_g1 := Nat.le_trans K_0.kept.1 z3
  replace K_0 := K_0.then_ hk (fun _ h => h.elim)
  clear hk
  refine p_cons (s_store (off := 0) (k := 10) (cs' := #[(Value.string { data := #[112, 97, 100] }), (Value.string { data := #[112, 97, 100, 115] }), (Value.string { data := #[109, 101, 116, 114, 105, 99] }), (Value.string { data := #[114, 111, 117, 116, 101] }), (Value.string { data := #[99, 111, 110, 102, 105, 103] }), (Value.string { data := #[116, 97, 114, 103, 101, 116] }), (Value.string { data := #[116, 114, 97, 110, 115, 105, 116] }), (Value.string { data := #[115, 111, 108, 105, 99, 105, 116, 101, 100] }), (Value.string { data := #[112, 114, 101, 102, 105, 120] }), (Value.string { data := #[100, 101, 115, 99, 114, 105, 112, 116, 111, 114] })]) p44_1_2 hE wn_none tS160 rfl rfl rfl rfl B_g1 (Nat.le_of_ble_eq_true rfl) rfl ?_)
  intro w4 B_g1' hk
  replace K_0 := K_0.then_ hk (fun k h => by rw [show k = g1 from h]; exact Or.inr z_0_g1)
  replace B_g1 := B_g1'
  clear hk
  refine p_nil ?_
  refine x_norm ?_
  refine wp_seq ?_
  refine c_reg R44_2_l ?_
  refine q0 p44_2_0 hE (st_move rfl) ?_
  clear hE a; intro a hE
  refine q0 p44_2_1 hE (st_lss (b := false) rfl rfl (by decide)) ?_
  clear hE a; intro a hE
  refine q0 p44_2_2 hE (st_move rfl) ?_
  clear hE a; intro a hE
  refine p_cons (s_still p44_2_3 hE (wn_some g44_2_2 rfl rfl) rfl (st_move rfl) ?_)
  clear hE a; intro a hE
  refine p_cons (s_still p44_2_4 hE (wn_some g44_2_2 rfl rfl) rfl (st_gtr (b := false) rfl rfl (by decide)) ?_)
  clear hE a; intro a hE
  refine q0 p44_2_5 hE (st_pick rfl rfl) ?_
  clear hE a; intro a hE
  refine p_nil ?_
  refine x_norm ?_
  refine c_cond (t := false) hE rfl ?_
  refine wp_skip ?_
  refine x_norm ?_
  refine c_reg R44_4_l ?_
  refine q0 p44_4_0 hE (st_move rfl) ?_
  clear hE a; intro a hE
  refine q0 p44_4_1 hE (st_indexAddrA (l := 10) (i := 3) Try.underlying160 tS9 rfl rfl (by decide) rfl) ?_
  clear hE a; intro a hE
  refine q0 p44_4_2 hE (st_load1 tA9 rfl ((blk_cell B_g1 3).trans rfl)) ?_
  clear hE a; intro a hE
  refine q0 p44_4_3 hE (st_assign rfl) ?_
  clear hE a; intro a hE
  refine p_nil ?_
  refine x_norm ?_
  refine wp_ret ?_
  refine ret_one (v := (Value.string { data := #[114, 111, 117, 116, 101] })) rfl hE (.tmp rfl .nil) ?_
  exact ⟨rfl, K_0⟩

set_option maxHeartbeats 4000000 in
theorem rword_4 (w : World) : Calls Try.prog 44 #[.int .i64 4] w fun e w' => e = .returned (.string ({ data := #[99, 111, 110, 102, 105, 103] } : ByteArray)) ∧ Kp w w' (fun _ => False) := by
  have K_0 := Kp.refl w (fun _ => False)
  refine enter (args := [Value.int .i64 4]) (n := 14) Try.func44 body44 rfl rfl rfl ?_
  intro a hE
  refine c_reg R44_0_l ?_
  refine q0 p44_0_0 hE (st_assign rfl) ?_
  clear hE a; intro a hE
  refine p_nil ?_
  refine x_norm ?_
  refine c_reg R44_1_l ?_
  refine q0 p44_1_0 hE (st_build (xs := [(0, Operand.const (Value.string { data := #[112, 97, 100] })), (1, Operand.const (Value.string { data := #[112, 97, 100, 115] })), (2, Operand.const (Value.string { data := #[109, 101, 116, 114, 105, 99] })), (3, Operand.const (Value.string { data := #[114, 111, 117, 116, 101] })), (4, Operand.const (Value.string { data := #[99, 111, 110, 102, 105, 103] })), (5, Operand.const (Value.string { data := #[116, 97, 114, 103, 101, 116] })), (6, Operand.const (Value.string { data := #[116, 114, 97, 110, 115, 105, 116] })), (7, Operand.const (Value.string { data := #[115, 111, 108, 105, 99, 105, 116, 101, 100] })), (8, Operand.const (Value.string { data := #[112, 114, 101, 102, 105, 120] })), (9, Operand.const (Value.string { data := #[100, 101, 115, 99, 114, 105, 112, 116, 111, 114] }))]) (vs := [(0, (Value.string { data := #[112, 97, 100] })), (1, (Value.string { data := #[112, 97, 100, 115] })), (2, (Value.string { data := #[109, 101, 116, 114, 105, 99] })), (3, (Value.string { data := #[114, 111, 117, 116, 101] })), (4, (Value.string { data := #[99, 111, 110, 102, 105, 103] })), (5, (Value.string { data := #[116, 97, 114, 103, 101, 116] })), (6, (Value.string { data := #[116, 114, 97, 110, 115, 105, 116] })), (7, (Value.string { data := #[115, 111, 108, 105, 99, 105, 116, 101, 100] })), (8, (Value.string { data := #[112, 114, 101, 102, 105, 120] })), (9, (Value.string { data := #[100, 101, 115, 99, 114, 105, 112, 116, 111, 114] }))]) (cs := #[(Value.string { data := #[112, 97, 100] }), (Value.string { data := #[112, 97, 100, 115] }), (Value.string { data := #[109, 101, 116, 114, 105, 99] }), (Value.string { data := #[114, 111, 117, 116, 101] }), (Value.string { data := #[99, 111, 110, 102, 105, 103] }), (Value.string { data := #[116, 97, 114, 103, 101, 116] }), (Value.string { data := #[116, 114, 97, 110, 115, 105, 116] }), (Value.string { data := #[115, 111, 108, 105, 99, 105, 116, 101, 100] }), (Value.string { data := #[112, 114, 101, 102, 105, 120] }), (Value.string { data := #[100, 101, 115, 99, 114, 105, 112, 116, 111, 114] })]) rfl (by kernel_rfl)) ?_
  clear hE a; intro a hE
  refine p_cons (s_alloc p44_1_1 hE wn_none rfl tZ160 ?_)
  clear hE a; intro g1 w2 z3 B_g1 hk a hE
  replace B_g1 : w2.heap[g1]? = some (.cells #[Value.string ByteArray.empty, Value.string ByteArray.empty, Value.string ByteArray.empty, Value.string ByteArray.empty, Value.string ByteArray.empty, Value.string ByteArray.empty, Value.string ByteArray.empty, Value.string ByteArray.empty, Value.string ByteArray.empty, Value.string ByteArray.empty] 160 (0, 0)) := B_g1
  have z_0_g1 := Nat.le_trans K_0.kept.1 z3
  replace K_0 := K_0.then_ hk (fun _ h => h.elim)
  clear hk
  refine p_cons (s_store (off := 0) (k := 10) (cs' := #[(Value.string { data := #[112, 97, 100] }), (Value.string { data := #[112, 97, 100, 115] }), (Value.string { data := #[109, 101, 116, 114, 105, 99] }), (Value.string { data := #[114, 111, 117, 116, 101] }), (Value.string { data := #[99, 111, 110, 102, 105, 103] }), (Value.string { data := #[116, 97, 114, 103, 101, 116] }), (Value.string { data := #[116, 114, 97, 110, 115, 105, 116] }), (Value.string { data := #[115, 111, 108, 105, 99, 105, 116, 101, 100] }), (Value.string { data := #[112, 114, 101, 102, 105, 120] }), (Value.string { data := #[100, 101, 115, 99, 114, 105, 112, 116, 111, 114] })]) p44_1_2 hE wn_none tS160 rfl rfl rfl rfl B_g1 (Nat.le_of_ble_eq_true rfl) rfl ?_)
  intro w4 B_g1' hk
  replace K_0 := K_0.then_ hk (fun k h => by rw [show k = g1 from h]; exact Or.inr z_0_g1)
  replace B_g1 := B_g1'
  clear hk
  refine p_nil ?_
  refine x_norm ?_
  refine wp_seq ?_
  refine c_reg R44_2_l ?_
  refine q0 p44_2_0 hE (st_move rfl) ?_
  clear hE a; intro a hE
  refine q0 p44_2_1 hE (st_lss (b := false) rfl rfl (by decide)) ?_
  clear hE a; intro a hE
  refine q0 p44_2_2 hE (st_move rfl) ?_
  clear hE a; intro a hE
  refine p_cons (s_still p44_2_3 hE (wn_some g44_2_2 rfl rfl) rfl (st_move rfl) ?_)
  clear hE a; intro a hE
  refine p_cons (s_still p44_2_4 hE (wn_some g44_2_2 rfl rfl) rfl (st_gtr (b := false) rfl rfl (by decide)) ?_)
  clear hE a; intro a hE
  refine q0 p44_2_5 hE (st_pick rfl rfl) ?_
  clear hE a; intro a hE
  refine p_nil ?_
  refine x_norm ?_
  refine c_cond (t := false) hE rfl ?_
  refine wp_skip ?_
  refine x_norm ?_
  refine c_reg R44_4_l ?_
  refine q0 p44_4_0 hE (st_move rfl) ?_
  clear hE a; intro a hE
  refine q0 p44_4_1 hE (st_indexAddrA (l := 10) (i := 4) Try.underlying160 tS9 rfl rfl (by decide) rfl) ?_
  clear hE a; intro a hE
  refine q0 p44_4_2 hE (st_load1 tA9 rfl ((blk_cell B_g1 4).trans rfl)) ?_
  clear hE a; intro a hE
  refine q0 p44_4_3 hE (st_assign rfl) ?_
  clear hE a; intro a hE
  refine p_nil ?_
  refine x_norm ?_
  refine wp_ret ?_
  refine ret_one (v := (Value.string { data := #[99, 111, 110, 102, 105, 103] })) rfl hE (.tmp rfl .nil) ?_
  exact ⟨rfl, K_0⟩

set_option maxHeartbeats 4000000 in
theorem rword_5 (w : World) : Calls Try.prog 44 #[.int .i64 5] w fun e w' => e = .returned (.string ({ data := #[116, 97, 114, 103, 101, 116] } : ByteArray)) ∧ Kp w w' (fun _ => False) := by
  have K_0 := Kp.refl w (fun _ => False)
  refine enter (args := [Value.int .i64 5]) (n := 14) Try.func44 body44 rfl rfl rfl ?_
  intro a hE
  refine c_reg R44_0_l ?_
  refine q0 p44_0_0 hE (st_assign rfl) ?_
  clear hE a; intro a hE
  refine p_nil ?_
  refine x_norm ?_
  refine c_reg R44_1_l ?_
  refine q0 p44_1_0 hE (st_build (xs := [(0, Operand.const (Value.string { data := #[112, 97, 100] })), (1, Operand.const (Value.string { data := #[112, 97, 100, 115] })), (2, Operand.const (Value.string { data := #[109, 101, 116, 114, 105, 99] })), (3, Operand.const (Value.string { data := #[114, 111, 117, 116, 101] })), (4, Operand.const (Value.string { data := #[99, 111, 110, 102, 105, 103] })), (5, Operand.const (Value.string { data := #[116, 97, 114, 103, 101, 116] })), (6, Operand.const (Value.string { data := #[116, 114, 97, 110, 115, 105, 116] })), (7, Operand.const (Value.string { data := #[115, 111, 108, 105, 99, 105, 116, 101, 100] })), (8, Operand.const (Value.string { data := #[112, 114, 101, 102, 105, 120] })), (9, Operand.const (Value.string { data := #[100, 101, 115, 99, 114, 105, 112, 116, 111, 114] }))]) (vs := [(0, (Value.string { data := #[112, 97, 100] })), (1, (Value.string { data := #[112, 97, 100, 115] })), (2, (Value.string { data := #[109, 101, 116, 114, 105, 99] })), (3, (Value.string { data := #[114, 111, 117, 116, 101] })), (4, (Value.string { data := #[99, 111, 110, 102, 105, 103] })), (5, (Value.string { data := #[116, 97, 114, 103, 101, 116] })), (6, (Value.string { data := #[116, 114, 97, 110, 115, 105, 116] })), (7, (Value.string { data := #[115, 111, 108, 105, 99, 105, 116, 101, 100] })), (8, (Value.string { data := #[112, 114, 101, 102, 105, 120] })), (9, (Value.string { data := #[100, 101, 115, 99, 114, 105, 112, 116, 111, 114] }))]) (cs := #[(Value.string { data := #[112, 97, 100] }), (Value.string { data := #[112, 97, 100, 115] }), (Value.string { data := #[109, 101, 116, 114, 105, 99] }), (Value.string { data := #[114, 111, 117, 116, 101] }), (Value.string { data := #[99, 111, 110, 102, 105, 103] }), (Value.string { data := #[116, 97, 114, 103, 101, 116] }), (Value.string { data := #[116, 114, 97, 110, 115, 105, 116] }), (Value.string { data := #[115, 111, 108, 105, 99, 105, 116, 101, 100] }), (Value.string { data := #[112, 114, 101, 102, 105, 120] }), (Value.string { data := #[100, 101, 115, 99, 114, 105, 112, 116, 111, 114] })]) rfl (by kernel_rfl)) ?_
  clear hE a; intro a hE
  refine p_cons (s_alloc p44_1_1 hE wn_none rfl tZ160 ?_)
  clear hE a; intro g1 w2 z3 B_g1 hk a hE
  replace B_g1 : w2.heap[g1]? = some (.cells #[Value.string ByteArray.empty, Value.string ByteArray.empty, Value.string ByteArray.empty, Value.string ByteArray.empty, Value.string ByteArray.empty, Value.string ByteArray.empty, Value.string ByteArray.empty, Value.string ByteArray.empty, Value.string ByteArray.empty, Value.string ByteArray.empty] 160 (0, 0)) := B_g1
  have z_0_g1 := Nat.le_trans K_0.kept.1 z3
  replace K_0 := K_0.then_ hk (fun _ h => h.elim)
  clear hk
  refine p_cons (s_store (off := 0) (k := 10) (cs' := #[(Value.string { data := #[112, 97, 100] }), (Value.string { data := #[112, 97, 100, 115] }), (Value.string { data := #[109, 101, 116, 114, 105, 99] }), (Value.string { data := #[114, 111, 117, 116, 101] }), (Value.string { data := #[99, 111, 110, 102, 105, 103] }), (Value.string { data := #[116, 97, 114, 103, 101, 116] }), (Value.string { data := #[116, 114, 97, 110, 115, 105, 116] }), (Value.string { data := #[115, 111, 108, 105, 99, 105, 116, 101, 100] }), (Value.string { data := #[112, 114, 101, 102, 105, 120] }), (Value.string { data := #[100, 101, 115, 99, 114, 105, 112, 116, 111, 114] })]) p44_1_2 hE wn_none tS160 rfl rfl rfl rfl B_g1 (Nat.le_of_ble_eq_true rfl) rfl ?_)
  intro w4 B_g1' hk
  replace K_0 := K_0.then_ hk (fun k h => by rw [show k = g1 from h]; exact Or.inr z_0_g1)
  replace B_g1 := B_g1'
  clear hk
  refine p_nil ?_
  refine x_norm ?_
  refine wp_seq ?_
  refine c_reg R44_2_l ?_
  refine q0 p44_2_0 hE (st_move rfl) ?_
  clear hE a; intro a hE
  refine q0 p44_2_1 hE (st_lss (b := false) rfl rfl (by decide)) ?_
  clear hE a; intro a hE
  refine q0 p44_2_2 hE (st_move rfl) ?_
  clear hE a; intro a hE
  refine p_cons (s_still p44_2_3 hE (wn_some g44_2_2 rfl rfl) rfl (st_move rfl) ?_)
  clear hE a; intro a hE
  refine p_cons (s_still p44_2_4 hE (wn_some g44_2_2 rfl rfl) rfl (st_gtr (b := false) rfl rfl (by decide)) ?_)
  clear hE a; intro a hE
  refine q0 p44_2_5 hE (st_pick rfl rfl) ?_
  clear hE a; intro a hE
  refine p_nil ?_
  refine x_norm ?_
  refine c_cond (t := false) hE rfl ?_
  refine wp_skip ?_
  refine x_norm ?_
  refine c_reg R44_4_l ?_
  refine q0 p44_4_0 hE (st_move rfl) ?_
  clear hE a; intro a hE
  refine q0 p44_4_1 hE (st_indexAddrA (l := 10) (i := 5) Try.underlying160 tS9 rfl rfl (by decide) rfl) ?_
  clear hE a; intro a hE
  refine q0 p44_4_2 hE (st_load1 tA9 rfl ((blk_cell B_g1 5).trans rfl)) ?_
  clear hE a; intro a hE
  refine q0 p44_4_3 hE (st_assign rfl) ?_
  clear hE a; intro a hE
  refine p_nil ?_
  refine x_norm ?_
  refine wp_ret ?_
  refine ret_one (v := (Value.string { data := #[116, 97, 114, 103, 101, 116] })) rfl hE (.tmp rfl .nil) ?_
  exact ⟨rfl, K_0⟩

set_option maxHeartbeats 4000000 in
theorem rword_6 (w : World) : Calls Try.prog 44 #[.int .i64 6] w fun e w' => e = .returned (.string ({ data := #[116, 114, 97, 110, 115, 105, 116] } : ByteArray)) ∧ Kp w w' (fun _ => False) := by
  have K_0 := Kp.refl w (fun _ => False)
  refine enter (args := [Value.int .i64 6]) (n := 14) Try.func44 body44 rfl rfl rfl ?_
  intro a hE
  refine c_reg R44_0_l ?_
  refine q0 p44_0_0 hE (st_assign rfl) ?_
  clear hE a; intro a hE
  refine p_nil ?_
  refine x_norm ?_
  refine c_reg R44_1_l ?_
  refine q0 p44_1_0 hE (st_build (xs := [(0, Operand.const (Value.string { data := #[112, 97, 100] })), (1, Operand.const (Value.string { data := #[112, 97, 100, 115] })), (2, Operand.const (Value.string { data := #[109, 101, 116, 114, 105, 99] })), (3, Operand.const (Value.string { data := #[114, 111, 117, 116, 101] })), (4, Operand.const (Value.string { data := #[99, 111, 110, 102, 105, 103] })), (5, Operand.const (Value.string { data := #[116, 97, 114, 103, 101, 116] })), (6, Operand.const (Value.string { data := #[116, 114, 97, 110, 115, 105, 116] })), (7, Operand.const (Value.string { data := #[115, 111, 108, 105, 99, 105, 116, 101, 100] })), (8, Operand.const (Value.string { data := #[112, 114, 101, 102, 105, 120] })), (9, Operand.const (Value.string { data := #[100, 101, 115, 99, 114, 105, 112, 116, 111, 114] }))]) (vs := [(0, (Value.string { data := #[112, 97, 100] })), (1, (Value.string { data := #[112, 97, 100, 115] })), (2, (Value.string { data := #[109, 101, 116, 114, 105, 99] })), (3, (Value.string { data := #[114, 111, 117, 116, 101] })), (4, (Value.string { data := #[99, 111, 110, 102, 105, 103] })), (5, (Value.string { data := #[116, 97, 114, 103, 101, 116] })), (6, (Value.string { data := #[116, 114, 97, 110, 115, 105, 116] })), (7, (Value.string { data := #[115, 111, 108, 105, 99, 105, 116, 101, 100] })), (8, (Value.string { data := #[112, 114, 101, 102, 105, 120] })), (9, (Value.string { data := #[100, 101, 115, 99, 114, 105, 112, 116, 111, 114] }))]) (cs := #[(Value.string { data := #[112, 97, 100] }), (Value.string { data := #[112, 97, 100, 115] }), (Value.string { data := #[109, 101, 116, 114, 105, 99] }), (Value.string { data := #[114, 111, 117, 116, 101] }), (Value.string { data := #[99, 111, 110, 102, 105, 103] }), (Value.string { data := #[116, 97, 114, 103, 101, 116] }), (Value.string { data := #[116, 114, 97, 110, 115, 105, 116] }), (Value.string { data := #[115, 111, 108, 105, 99, 105, 116, 101, 100] }), (Value.string { data := #[112, 114, 101, 102, 105, 120] }), (Value.string { data := #[100, 101, 115, 99, 114, 105, 112, 116, 111, 114] })]) rfl (by kernel_rfl)) ?_
  clear hE a; intro a hE
  refine p_cons (s_alloc p44_1_1 hE wn_none rfl tZ160 ?_)
  clear hE a; intro g1 w2 z3 B_g1 hk a hE
  replace B_g1 : w2.heap[g1]? = some (.cells #[Value.string ByteArray.empty, Value.string ByteArray.empty, Value.string ByteArray.empty, Value.string ByteArray.empty, Value.string ByteArray.empty, Value.string ByteArray.empty, Value.string ByteArray.empty, Value.string ByteArray.empty, Value.string ByteArray.empty, Value.string ByteArray.empty] 160 (0, 0)) := B_g1
  have z_0_g1 := Nat.le_trans K_0.kept.1 z3
  replace K_0 := K_0.then_ hk (fun _ h => h.elim)
  clear hk
  refine p_cons (s_store (off := 0) (k := 10) (cs' := #[(Value.string { data := #[112, 97, 100] }), (Value.string { data := #[112, 97, 100, 115] }), (Value.string { data := #[109, 101, 116, 114, 105, 99] }), (Value.string { data := #[114, 111, 117, 116, 101] }), (Value.string { data := #[99, 111, 110, 102, 105, 103] }), (Value.string { data := #[116, 97, 114, 103, 101, 116] }), (Value.string { data := #[116, 114, 97, 110, 115, 105, 116] }), (Value.string { data := #[115, 111, 108, 105, 99, 105, 116, 101, 100] }), (Value.string { data := #[112, 114, 101, 102, 105, 120] }), (Value.string { data := #[100, 101, 115, 99, 114, 105, 112, 116, 111, 114] })]) p44_1_2 hE wn_none tS160 rfl rfl rfl rfl B_g1 (Nat.le_of_ble_eq_true rfl) rfl ?_)
  intro w4 B_g1' hk
  replace K_0 := K_0.then_ hk (fun k h => by rw [show k = g1 from h]; exact Or.inr z_0_g1)
  replace B_g1 := B_g1'
  clear hk
  refine p_nil ?_
  refine x_norm ?_
  refine wp_seq ?_
  refine c_reg R44_2_l ?_
  refine q0 p44_2_0 hE (st_move rfl) ?_
  clear hE a; intro a hE
  refine q0 p44_2_1 hE (st_lss (b := false) rfl rfl (by decide)) ?_
  clear hE a; intro a hE
  refine q0 p44_2_2 hE (st_move rfl) ?_
  clear hE a; intro a hE
  refine p_cons (s_still p44_2_3 hE (wn_some g44_2_2 rfl rfl) rfl (st_move rfl) ?_)
  clear hE a; intro a hE
  refine p_cons (s_still p44_2_4 hE (wn_some g44_2_2 rfl rfl) rfl (st_gtr (b := false) rfl rfl (by decide)) ?_)
  clear hE a; intro a hE
  refine q0 p44_2_5 hE (st_pick rfl rfl) ?_
  clear hE a; intro a hE
  refine p_nil ?_
  refine x_norm ?_
  refine c_cond (t := false) hE rfl ?_
  refine wp_skip ?_
  refine x_norm ?_
  refine c_reg R44_4_l ?_
  refine q0 p44_4_0 hE (st_move rfl) ?_
  clear hE a; intro a hE
  refine q0 p44_4_1 hE (st_indexAddrA (l := 10) (i := 6) Try.underlying160 tS9 rfl rfl (by decide) rfl) ?_
  clear hE a; intro a hE
  refine q0 p44_4_2 hE (st_load1 tA9 rfl ((blk_cell B_g1 6).trans rfl)) ?_
  clear hE a; intro a hE
  refine q0 p44_4_3 hE (st_assign rfl) ?_
  clear hE a; intro a hE
  refine p_nil ?_
  refine x_norm ?_
  refine wp_ret ?_
  refine ret_one (v := (Value.string { data := #[116, 114, 97, 110, 115, 105, 116] })) rfl hE (.tmp rfl .nil) ?_
  exact ⟨rfl, K_0⟩

set_option maxHeartbeats 4000000 in
theorem rword_7 (w : World) : Calls Try.prog 44 #[.int .i64 7] w fun e w' => e = .returned (.string ({ data := #[115, 111, 108, 105, 99, 105, 116, 101, 100] } : ByteArray)) ∧ Kp w w' (fun _ => False) := by
  have K_0 := Kp.refl w (fun _ => False)
  refine enter (args := [Value.int .i64 7]) (n := 14) Try.func44 body44 rfl rfl rfl ?_
  intro a hE
  refine c_reg R44_0_l ?_
  refine q0 p44_0_0 hE (st_assign rfl) ?_
  clear hE a; intro a hE
  refine p_nil ?_
  refine x_norm ?_
  refine c_reg R44_1_l ?_
  refine q0 p44_1_0 hE (st_build (xs := [(0, Operand.const (Value.string { data := #[112, 97, 100] })), (1, Operand.const (Value.string { data := #[112, 97, 100, 115] })), (2, Operand.const (Value.string { data := #[109, 101, 116, 114, 105, 99] })), (3, Operand.const (Value.string { data := #[114, 111, 117, 116, 101] })), (4, Operand.const (Value.string { data := #[99, 111, 110, 102, 105, 103] })), (5, Operand.const (Value.string { data := #[116, 97, 114, 103, 101, 116] })), (6, Operand.const (Value.string { data := #[116, 114, 97, 110, 115, 105, 116] })), (7, Operand.const (Value.string { data := #[115, 111, 108, 105, 99, 105, 116, 101, 100] })), (8, Operand.const (Value.string { data := #[112, 114, 101, 102, 105, 120] })), (9, Operand.const (Value.string { data := #[100, 101, 115, 99, 114, 105, 112, 116, 111, 114] }))]) (vs := [(0, (Value.string { data := #[112, 97, 100] })), (1, (Value.string { data := #[112, 97, 100, 115] })), (2, (Value.string { data := #[109, 101, 116, 114, 105, 99] })), (3, (Value.string { data := #[114, 111, 117, 116, 101] })), (4, (Value.string { data := #[99, 111, 110, 102, 105, 103] })), (5, (Value.string { data := #[116, 97, 114, 103, 101, 116] })), (6, (Value.string { data := #[116, 114, 97, 110, 115, 105, 116] })), (7, (Value.string { data := #[115, 111, 108, 105, 99, 105, 116, 101, 100] })), (8, (Value.string { data := #[112, 114, 101, 102, 105, 120] })), (9, (Value.string { data := #[100, 101, 115, 99, 114, 105, 112, 116, 111, 114] }))]) (cs := #[(Value.string { data := #[112, 97, 100] }), (Value.string { data := #[112, 97, 100, 115] }), (Value.string { data := #[109, 101, 116, 114, 105, 99] }), (Value.string { data := #[114, 111, 117, 116, 101] }), (Value.string { data := #[99, 111, 110, 102, 105, 103] }), (Value.string { data := #[116, 97, 114, 103, 101, 116] }), (Value.string { data := #[116, 114, 97, 110, 115, 105, 116] }), (Value.string { data := #[115, 111, 108, 105, 99, 105, 116, 101, 100] }), (Value.string { data := #[112, 114, 101, 102, 105, 120] }), (Value.string { data := #[100, 101, 115, 99, 114, 105, 112, 116, 111, 114] })]) rfl (by kernel_rfl)) ?_
  clear hE a; intro a hE
  refine p_cons (s_alloc p44_1_1 hE wn_none rfl tZ160 ?_)
  clear hE a; intro g1 w2 z3 B_g1 hk a hE
  replace B_g1 : w2.heap[g1]? = some (.cells #[Value.string ByteArray.empty, Value.string ByteArray.empty, Value.string ByteArray.empty, Value.string ByteArray.empty, Value.string ByteArray.empty, Value.string ByteArray.empty, Value.string ByteArray.empty, Value.string ByteArray.empty, Value.string ByteArray.empty, Value.string ByteArray.empty] 160 (0, 0)) := B_g1
  have z_0_g1 := Nat.le_trans K_0.kept.1 z3
  replace K_0 := K_0.then_ hk (fun _ h => h.elim)
  clear hk
  refine p_cons (s_store (off := 0) (k := 10) (cs' := #[(Value.string { data := #[112, 97, 100] }), (Value.string { data := #[112, 97, 100, 115] }), (Value.string { data := #[109, 101, 116, 114, 105, 99] }), (Value.string { data := #[114, 111, 117, 116, 101] }), (Value.string { data := #[99, 111, 110, 102, 105, 103] }), (Value.string { data := #[116, 97, 114, 103, 101, 116] }), (Value.string { data := #[116, 114, 97, 110, 115, 105, 116] }), (Value.string { data := #[115, 111, 108, 105, 99, 105, 116, 101, 100] }), (Value.string { data := #[112, 114, 101, 102, 105, 120] }), (Value.string { data := #[100, 101, 115, 99, 114, 105, 112, 116, 111, 114] })]) p44_1_2 hE wn_none tS160 rfl rfl rfl rfl B_g1 (Nat.le_of_ble_eq_true rfl) rfl ?_)
  intro w4 B_g1' hk
  replace K_0 := K_0.then_ hk (fun k h => by rw [show k = g1 from h]; exact Or.inr z_0_g1)
  replace B_g1 := B_g1'
  clear hk
  refine p_nil ?_
  refine x_norm ?_
  refine wp_seq ?_
  refine c_reg R44_2_l ?_
  refine q0 p44_2_0 hE (st_move rfl) ?_
  clear hE a; intro a hE
  refine q0 p44_2_1 hE (st_lss (b := false) rfl rfl (by decide)) ?_
  clear hE a; intro a hE
  refine q0 p44_2_2 hE (st_move rfl) ?_
  clear hE a; intro a hE
  refine p_cons (s_still p44_2_3 hE (wn_some g44_2_2 rfl rfl) rfl (st_move rfl) ?_)
  clear hE a; intro a hE
  refine p_cons (s_still p44_2_4 hE (wn_some g44_2_2 rfl rfl) rfl (st_gtr (b := false) rfl rfl (by decide)) ?_)
  clear hE a; intro a hE
  refine q0 p44_2_5 hE (st_pick rfl rfl) ?_
  clear hE a; intro a hE
  refine p_nil ?_
  refine x_norm ?_
  refine c_cond (t := false) hE rfl ?_
  refine wp_skip ?_
  refine x_norm ?_
  refine c_reg R44_4_l ?_
  refine q0 p44_4_0 hE (st_move rfl) ?_
  clear hE a; intro a hE
  refine q0 p44_4_1 hE (st_indexAddrA (l := 10) (i := 7) Try.underlying160 tS9 rfl rfl (by decide) rfl) ?_
  clear hE a; intro a hE
  refine q0 p44_4_2 hE (st_load1 tA9 rfl ((blk_cell B_g1 7).trans rfl)) ?_
  clear hE a; intro a hE
  refine q0 p44_4_3 hE (st_assign rfl) ?_
  clear hE a; intro a hE
  refine p_nil ?_
  refine x_norm ?_
  refine wp_ret ?_
  refine ret_one (v := (Value.string { data := #[115, 111, 108, 105, 99, 105, 116, 101, 100] })) rfl hE (.tmp rfl .nil) ?_
  exact ⟨rfl, K_0⟩

set_option maxHeartbeats 4000000 in
theorem rword_8 (w : World) : Calls Try.prog 44 #[.int .i64 8] w fun e w' => e = .returned (.string ({ data := #[112, 114, 101, 102, 105, 120] } : ByteArray)) ∧ Kp w w' (fun _ => False) := by
  have K_0 := Kp.refl w (fun _ => False)
  refine enter (args := [Value.int .i64 8]) (n := 14) Try.func44 body44 rfl rfl rfl ?_
  intro a hE
  refine c_reg R44_0_l ?_
  refine q0 p44_0_0 hE (st_assign rfl) ?_
  clear hE a; intro a hE
  refine p_nil ?_
  refine x_norm ?_
  refine c_reg R44_1_l ?_
  refine q0 p44_1_0 hE (st_build (xs := [(0, Operand.const (Value.string { data := #[112, 97, 100] })), (1, Operand.const (Value.string { data := #[112, 97, 100, 115] })), (2, Operand.const (Value.string { data := #[109, 101, 116, 114, 105, 99] })), (3, Operand.const (Value.string { data := #[114, 111, 117, 116, 101] })), (4, Operand.const (Value.string { data := #[99, 111, 110, 102, 105, 103] })), (5, Operand.const (Value.string { data := #[116, 97, 114, 103, 101, 116] })), (6, Operand.const (Value.string { data := #[116, 114, 97, 110, 115, 105, 116] })), (7, Operand.const (Value.string { data := #[115, 111, 108, 105, 99, 105, 116, 101, 100] })), (8, Operand.const (Value.string { data := #[112, 114, 101, 102, 105, 120] })), (9, Operand.const (Value.string { data := #[100, 101, 115, 99, 114, 105, 112, 116, 111, 114] }))]) (vs := [(0, (Value.string { data := #[112, 97, 100] })), (1, (Value.string { data := #[112, 97, 100, 115] })), (2, (Value.string { data := #[109, 101, 116, 114, 105, 99] })), (3, (Value.string { data := #[114, 111, 117, 116, 101] })), (4, (Value.string { data := #[99, 111, 110, 102, 105, 103] })), (5, (Value.string { data := #[116, 97, 114, 103, 101, 116] })), (6, (Value.string { data := #[116, 114, 97, 110, 115, 105, 116] })), (7, (Value.string { data := #[115, 111, 108, 105, 99, 105, 116, 101, 100] })), (8, (Value.string { data := #[112, 114, 101, 102, 105, 120] })), (9, (Value.string { data := #[100, 101, 115, 99, 114, 105, 112, 116, 111, 114] }))]) (cs := #[(Value.string { data := #[112, 97, 100] }), (Value.string { data := #[112, 97, 100, 115] }), (Value.string { data := #[109, 101, 116, 114, 105, 99] }), (Value.string { data := #[114, 111, 117, 116, 101] }), (Value.string { data := #[99, 111, 110, 102, 105, 103] }), (Value.string { data := #[116, 97, 114, 103, 101, 116] }), (Value.string { data := #[116, 114, 97, 110, 115, 105, 116] }), (Value.string { data := #[115, 111, 108, 105, 99, 105, 116, 101, 100] }), (Value.string { data := #[112, 114, 101, 102, 105, 120] }), (Value.string { data := #[100, 101, 115, 99, 114, 105, 112, 116, 111, 114] })]) rfl (by kernel_rfl)) ?_
  clear hE a; intro a hE
  refine p_cons (s_alloc p44_1_1 hE wn_none rfl tZ160 ?_)
  clear hE a; intro g1 w2 z3 B_g1 hk a hE
  replace B_g1 : w2.heap[g1]? = some (.cells #[Value.string ByteArray.empty, Value.string ByteArray.empty, Value.string ByteArray.empty, Value.string ByteArray.empty, Value.string ByteArray.empty, Value.string ByteArray.empty, Value.string ByteArray.empty, Value.string ByteArray.empty, Value.string ByteArray.empty, Value.string ByteArray.empty] 160 (0, 0)) := B_g1
  have z_0_g1 := Nat.le_trans K_0.kept.1 z3
  replace K_0 := K_0.then_ hk (fun _ h => h.elim)
  clear hk
  refine p_cons (s_store (off := 0) (k := 10) (cs' := #[(Value.string { data := #[112, 97, 100] }), (Value.string { data := #[112, 97, 100, 115] }), (Value.string { data := #[109, 101, 116, 114, 105, 99] }), (Value.string { data := #[114, 111, 117, 116, 101] }), (Value.string { data := #[99, 111, 110, 102, 105, 103] }), (Value.string { data := #[116, 97, 114, 103, 101, 116] }), (Value.string { data := #[116, 114, 97, 110, 115, 105, 116] }), (Value.string { data := #[115, 111, 108, 105, 99, 105, 116, 101, 100] }), (Value.string { data := #[112, 114, 101, 102, 105, 120] }), (Value.string { data := #[100, 101, 115, 99, 114, 105, 112, 116, 111, 114] })]) p44_1_2 hE wn_none tS160 rfl rfl rfl rfl B_g1 (Nat.le_of_ble_eq_true rfl) rfl ?_)
  intro w4 B_g1' hk
  replace K_0 := K_0.then_ hk (fun k h => by rw [show k = g1 from h]; exact Or.inr z_0_g1)
  replace B_g1 := B_g1'
  clear hk
  refine p_nil ?_
  refine x_norm ?_
  refine wp_seq ?_
  refine c_reg R44_2_l ?_
  refine q0 p44_2_0 hE (st_move rfl) ?_
  clear hE a; intro a hE
  refine q0 p44_2_1 hE (st_lss (b := false) rfl rfl (by decide)) ?_
  clear hE a; intro a hE
  refine q0 p44_2_2 hE (st_move rfl) ?_
  clear hE a; intro a hE
  refine p_cons (s_still p44_2_3 hE (wn_some g44_2_2 rfl rfl) rfl (st_move rfl) ?_)
  clear hE a; intro a hE
  refine p_cons (s_still p44_2_4 hE (wn_some g44_2_2 rfl rfl) rfl (st_gtr (b := false) rfl rfl (by decide)) ?_)
  clear hE a; intro a hE
  refine q0 p44_2_5 hE (st_pick rfl rfl) ?_
  clear hE a; intro a hE
  refine p_nil ?_
  refine x_norm ?_
  refine c_cond (t := false) hE rfl ?_
  refine wp_skip ?_
  refine x_norm ?_
  refine c_reg R44_4_l ?_
  refine q0 p44_4_0 hE (st_move rfl) ?_
  clear hE a; intro a hE
  refine q0 p44_4_1 hE (st_indexAddrA (l := 10) (i := 8) Try.underlying160 tS9 rfl rfl (by decide) rfl) ?_
  clear hE a; intro a hE
  refine q0 p44_4_2 hE (st_load1 tA9 rfl ((blk_cell B_g1 8).trans rfl)) ?_
  clear hE a; intro a hE
  refine q0 p44_4_3 hE (st_assign rfl) ?_
  clear hE a; intro a hE
  refine p_nil ?_
  refine x_norm ?_
  refine wp_ret ?_
  refine ret_one (v := (Value.string { data := #[112, 114, 101, 102, 105, 120] })) rfl hE (.tmp rfl .nil) ?_
  exact ⟨rfl, K_0⟩

set_option maxHeartbeats 4000000 in
theorem rword_9 (w : World) : Calls Try.prog 44 #[.int .i64 9] w fun e w' => e = .returned (.string ({ data := #[100, 101, 115, 99, 114, 105, 112, 116, 111, 114] } : ByteArray)) ∧ Kp w w' (fun _ => False) := by
  have K_0 := Kp.refl w (fun _ => False)
  refine enter (args := [Value.int .i64 9]) (n := 14) Try.func44 body44 rfl rfl rfl ?_
  intro a hE
  refine c_reg R44_0_l ?_
  refine q0 p44_0_0 hE (st_assign rfl) ?_
  clear hE a; intro a hE
  refine p_nil ?_
  refine x_norm ?_
  refine c_reg R44_1_l ?_
  refine q0 p44_1_0 hE (st_build (xs := [(0, Operand.const (Value.string { data := #[112, 97, 100] })), (1, Operand.const (Value.string { data := #[112, 97, 100, 115] })), (2, Operand.const (Value.string { data := #[109, 101, 116, 114, 105, 99] })), (3, Operand.const (Value.string { data := #[114, 111, 117, 116, 101] })), (4, Operand.const (Value.string { data := #[99, 111, 110, 102, 105, 103] })), (5, Operand.const (Value.string { data := #[116, 97, 114, 103, 101, 116] })), (6, Operand.const (Value.string { data := #[116, 114, 97, 110, 115, 105, 116] })), (7, Operand.const (Value.string { data := #[115, 111, 108, 105, 99, 105, 116, 101, 100] })), (8, Operand.const (Value.string { data := #[112, 114, 101, 102, 105, 120] })), (9, Operand.const (Value.string { data := #[100, 101, 115, 99, 114, 105, 112, 116, 111, 114] }))]) (vs := [(0, (Value.string { data := #[112, 97, 100] })), (1, (Value.string { data := #[112, 97, 100, 115] })), (2, (Value.string { data := #[109, 101, 116, 114, 105, 99] })), (3, (Value.string { data := #[114, 111, 117, 116, 101] })), (4, (Value.string { data := #[99, 111, 110, 102, 105, 103] })), (5, (Value.string { data := #[116, 97, 114, 103, 101, 116] })), (6, (Value.string { data := #[116, 114, 97, 110, 115, 105, 116] })), (7, (Value.string { data := #[115, 111, 108, 105, 99, 105, 116, 101, 100] })), (8, (Value.string { data := #[112, 114, 101, 102, 105, 120] })), (9, (Value.string { data := #[100, 101, 115, 99, 114, 105, 112, 116, 111, 114] }))]) (cs := #[(Value.string { data := #[112, 97, 100] }), (Value.string { data := #[112, 97, 100, 115] }), (Value.string { data := #[109, 101, 116, 114, 105, 99] }), (Value.string { data := #[114, 111, 117, 116, 101] }), (Value.string { data := #[99, 111, 110, 102, 105, 103] }), (Value.string { data := #[116, 97, 114, 103, 101, 116] }), (Value.string { data := #[116, 114, 97, 110, 115, 105, 116] }), (Value.string { data := #[115, 111, 108, 105, 99, 105, 116, 101, 100] }), (Value.string { data := #[112, 114, 101, 102, 105, 120] }), (Value.string { data := #[100, 101, 115, 99, 114, 105, 112, 116, 111, 114] })]) rfl (by kernel_rfl)) ?_
  clear hE a; intro a hE
  refine p_cons (s_alloc p44_1_1 hE wn_none rfl tZ160 ?_)
  clear hE a; intro g1 w2 z3 B_g1 hk a hE
  replace B_g1 : w2.heap[g1]? = some (.cells #[Value.string ByteArray.empty, Value.string ByteArray.empty, Value.string ByteArray.empty, Value.string ByteArray.empty, Value.string ByteArray.empty, Value.string ByteArray.empty, Value.string ByteArray.empty, Value.string ByteArray.empty, Value.string ByteArray.empty, Value.string ByteArray.empty] 160 (0, 0)) := B_g1
  have z_0_g1 := Nat.le_trans K_0.kept.1 z3
  replace K_0 := K_0.then_ hk (fun _ h => h.elim)
  clear hk
  refine p_cons (s_store (off := 0) (k := 10) (cs' := #[(Value.string { data := #[112, 97, 100] }), (Value.string { data := #[112, 97, 100, 115] }), (Value.string { data := #[109, 101, 116, 114, 105, 99] }), (Value.string { data := #[114, 111, 117, 116, 101] }), (Value.string { data := #[99, 111, 110, 102, 105, 103] }), (Value.string { data := #[116, 97, 114, 103, 101, 116] }), (Value.string { data := #[116, 114, 97, 110, 115, 105, 116] }), (Value.string { data := #[115, 111, 108, 105, 99, 105, 116, 101, 100] }), (Value.string { data := #[112, 114, 101, 102, 105, 120] }), (Value.string { data := #[100, 101, 115, 99, 114, 105, 112, 116, 111, 114] })]) p44_1_2 hE wn_none tS160 rfl rfl rfl rfl B_g1 (Nat.le_of_ble_eq_true rfl) rfl ?_)
  intro w4 B_g1' hk
  replace K_0 := K_0.then_ hk (fun k h => by rw [show k = g1 from h]; exact Or.inr z_0_g1)
  replace B_g1 := B_g1'
  clear hk
  refine p_nil ?_
  refine x_norm ?_
  refine wp_seq ?_
  refine c_reg R44_2_l ?_
  refine q0 p44_2_0 hE (st_move rfl) ?_
  clear hE a; intro a hE
  refine q0 p44_2_1 hE (st_lss (b := false) rfl rfl (by decide)) ?_
  clear hE a; intro a hE
  refine q0 p44_2_2 hE (st_move rfl) ?_
  clear hE a; intro a hE
  refine p_cons (s_still p44_2_3 hE (wn_some g44_2_2 rfl rfl) rfl (st_move rfl) ?_)
  clear hE a; intro a hE
  refine p_cons (s_still p44_2_4 hE (wn_some g44_2_2 rfl rfl) rfl (st_gtr (b := false) rfl rfl (by decide)) ?_)
  clear hE a; intro a hE
  refine q0 p44_2_5 hE (st_pick rfl rfl) ?_
  clear hE a; intro a hE
  refine p_nil ?_
  refine x_norm ?_
  refine c_cond (t := false) hE rfl ?_
  refine wp_skip ?_
  refine x_norm ?_
  refine c_reg R44_4_l ?_
  refine q0 p44_4_0 hE (st_move rfl) ?_
  clear hE a; intro a hE
  refine q0 p44_4_1 hE (st_indexAddrA (l := 10) (i := 9) Try.underlying160 tS9 rfl rfl (by decide) rfl) ?_
  clear hE a; intro a hE
  refine q0 p44_4_2 hE (st_load1 tA9 rfl ((blk_cell B_g1 9).trans rfl)) ?_
  clear hE a; intro a hE
  refine q0 p44_4_3 hE (st_assign rfl) ?_
  clear hE a; intro a hE
  refine p_nil ?_
  refine x_norm ?_
  refine wp_ret ?_
  refine ret_one (v := (Value.string { data := #[100, 101, 115, 99, 114, 105, 112, 116, 111, 114] })) rfl hE (.tmp rfl .nil) ?_
  exact ⟨rfl, K_0⟩
theorem p44_3_0 : pj (regOf Try.f44 3) 0 = some (some 2, .assign (.const (.string { data := #[] })), 9, none) := by kernel_rfl
set_option maxHeartbeats 4000000 in
theorem rword_no (k : Int) (h : ¬ (0 ≤ k ∧ k ≤ 9)) (w : World) : Calls Try.prog 44 #[.int .i64 k] w fun e w' => e = .returned (.string ByteArray.empty) ∧ Kp w w' (fun _ => False) := by
  have K_0 := Kp.refl w (fun _ => False)
  refine enter (args := [Value.int .i64 k]) (n := 14) Try.func44 body44 rfl rfl rfl ?_
  intro a hE
  refine c_reg R44_0_l ?_
  refine q0 p44_0_0 hE (st_assign rfl) ?_
  clear hE a; intro a hE
  refine p_nil ?_
  refine x_norm ?_
  refine c_reg R44_1_l ?_
  refine q0 p44_1_0 hE (st_build (xs := [(0, Operand.const (Value.string { data := #[112, 97, 100] })), (1, Operand.const (Value.string { data := #[112, 97, 100, 115] })), (2, Operand.const (Value.string { data := #[109, 101, 116, 114, 105, 99] })), (3, Operand.const (Value.string { data := #[114, 111, 117, 116, 101] })), (4, Operand.const (Value.string { data := #[99, 111, 110, 102, 105, 103] })), (5, Operand.const (Value.string { data := #[116, 97, 114, 103, 101, 116] })), (6, Operand.const (Value.string { data := #[116, 114, 97, 110, 115, 105, 116] })), (7, Operand.const (Value.string { data := #[115, 111, 108, 105, 99, 105, 116, 101, 100] })), (8, Operand.const (Value.string { data := #[112, 114, 101, 102, 105, 120] })), (9, Operand.const (Value.string { data := #[100, 101, 115, 99, 114, 105, 112, 116, 111, 114] }))]) (vs := [(0, (Value.string { data := #[112, 97, 100] })), (1, (Value.string { data := #[112, 97, 100, 115] })), (2, (Value.string { data := #[109, 101, 116, 114, 105, 99] })), (3, (Value.string { data := #[114, 111, 117, 116, 101] })), (4, (Value.string { data := #[99, 111, 110, 102, 105, 103] })), (5, (Value.string { data := #[116, 97, 114, 103, 101, 116] })), (6, (Value.string { data := #[116, 114, 97, 110, 115, 105, 116] })), (7, (Value.string { data := #[115, 111, 108, 105, 99, 105, 116, 101, 100] })), (8, (Value.string { data := #[112, 114, 101, 102, 105, 120] })), (9, (Value.string { data := #[100, 101, 115, 99, 114, 105, 112, 116, 111, 114] }))]) (cs := #[(Value.string { data := #[112, 97, 100] }), (Value.string { data := #[112, 97, 100, 115] }), (Value.string { data := #[109, 101, 116, 114, 105, 99] }), (Value.string { data := #[114, 111, 117, 116, 101] }), (Value.string { data := #[99, 111, 110, 102, 105, 103] }), (Value.string { data := #[116, 97, 114, 103, 101, 116] }), (Value.string { data := #[116, 114, 97, 110, 115, 105, 116] }), (Value.string { data := #[115, 111, 108, 105, 99, 105, 116, 101, 100] }), (Value.string { data := #[112, 114, 101, 102, 105, 120] }), (Value.string { data := #[100, 101, 115, 99, 114, 105, 112, 116, 111, 114] })]) rfl (by kernel_rfl)) ?_
  clear hE a; intro a hE
  refine p_cons (s_alloc p44_1_1 hE wn_none rfl tZ160 ?_)
  clear hE a; intro g1 w2 z3 B_g1 hk a hE
  replace B_g1 : w2.heap[g1]? = some (.cells #[Value.string ByteArray.empty, Value.string ByteArray.empty, Value.string ByteArray.empty, Value.string ByteArray.empty, Value.string ByteArray.empty, Value.string ByteArray.empty, Value.string ByteArray.empty, Value.string ByteArray.empty, Value.string ByteArray.empty, Value.string ByteArray.empty] 160 (0, 0)) := B_g1
  have z_0_g1 := Nat.le_trans K_0.kept.1 z3
  replace K_0 := K_0.then_ hk (fun _ h => h.elim)
  clear hk
  refine p_cons (s_store (off := 0) (k := 10) (cs' := #[(Value.string { data := #[112, 97, 100] }), (Value.string { data := #[112, 97, 100, 115] }), (Value.string { data := #[109, 101, 116, 114, 105, 99] }), (Value.string { data := #[114, 111, 117, 116, 101] }), (Value.string { data := #[99, 111, 110, 102, 105, 103] }), (Value.string { data := #[116, 97, 114, 103, 101, 116] }), (Value.string { data := #[116, 114, 97, 110, 115, 105, 116] }), (Value.string { data := #[115, 111, 108, 105, 99, 105, 116, 101, 100] }), (Value.string { data := #[112, 114, 101, 102, 105, 120] }), (Value.string { data := #[100, 101, 115, 99, 114, 105, 112, 116, 111, 114] })]) p44_1_2 hE wn_none tS160 rfl rfl rfl rfl B_g1 (Nat.le_of_ble_eq_true rfl) rfl ?_)
  intro w4 B_g1' hk
  replace K_0 := K_0.then_ hk (fun k h => by rw [show k = g1 from h]; exact Or.inr z_0_g1)
  replace B_g1 := B_g1'
  clear hk
  refine p_nil ?_
  refine x_norm ?_
  refine wp_seq ?_
  rcases Decidable.em (k < 0) with hlo | hlo
  ·
    refine c_reg R44_2_l ?_
    refine q0 p44_2_0 hE (st_move rfl) ?_
    clear hE a; intro a hE
    refine q0 p44_2_1 hE (st_lss (b := true) rfl rfl (decide_eq_true (by omega))) ?_
    clear hE a; intro a hE
    refine q0 p44_2_2 hE (st_move rfl) ?_
    clear hE a; intro a hE
    refine p_cons (s_skip p44_2_3 hE (wn_some g44_2_2 rfl rfl) rfl ?_)
    clear hE a; intro a hE
    refine p_cons (s_skip p44_2_4 hE (wn_some g44_2_2 rfl rfl) rfl ?_)
    clear hE a; intro a hE
    refine q0 p44_2_5 hE (st_pick rfl rfl) ?_
    clear hE a; intro a hE
    refine p_nil ?_
    refine x_norm ?_
    refine c_cond (t := true) hE rfl ?_
    refine c_reg R44_3_l ?_
    refine q0 p44_3_0 hE (st_assign rfl) ?_
    clear hE a; intro a hE
    refine p_nil ?_
    refine x_norm ?_
    refine wp_ret ?_
    refine x_ret ?_
    refine ret_one (v := (Value.string { data := #[] })) rfl hE (.tmp rfl .nil) ?_
    exact ⟨rfl, K_0⟩
  ·
    refine c_reg R44_2_l ?_
    refine q0 p44_2_0 hE (st_move rfl) ?_
    clear hE a; intro a hE
    refine q0 p44_2_1 hE (st_lss (b := false) rfl rfl (decide_eq_false (by omega))) ?_
    clear hE a; intro a hE
    refine q0 p44_2_2 hE (st_move rfl) ?_
    clear hE a; intro a hE
    refine p_cons (s_still p44_2_3 hE (wn_some g44_2_2 rfl rfl) rfl (st_move rfl) ?_)
    clear hE a; intro a hE
    refine p_cons (s_still p44_2_4 hE (wn_some g44_2_2 rfl rfl) rfl (st_gtr (b := true) rfl rfl (decide_eq_true (by omega))) ?_)
    clear hE a; intro a hE
    refine q0 p44_2_5 hE (st_pick rfl rfl) ?_
    clear hE a; intro a hE
    refine p_nil ?_
    refine x_norm ?_
    refine c_cond (t := true) hE rfl ?_
    refine c_reg R44_3_l ?_
    refine q0 p44_3_0 hE (st_assign rfl) ?_
    clear hE a; intro a hE
    refine p_nil ?_
    refine x_norm ?_
    refine wp_ret ?_
    refine x_ret ?_
    refine ret_one (v := (Value.string { data := #[] })) rfl hE (.tmp rfl .nil) ?_
    exact ⟨rfl, K_0⟩
theorem rword_ok (k : Nat) (hk : k ≤ 9) (w : World) : Calls Try.prog 44 #[.int .i64 (k : Int)] w fun e w' => e = .returned (.string (wordF k)) ∧ Kp w w' (fun _ => False) := by
  match k, hk with
  | 0, _ => exact rword_0 w
  | 1, _ => exact rword_1 w
  | 2, _ => exact rword_2 w
  | 3, _ => exact rword_3 w
  | 4, _ => exact rword_4 w
  | 5, _ => exact rword_5 w
  | 6, _ => exact rword_6 w
  | 7, _ => exact rword_7 w
  | 8, _ => exact rword_8 w
  | 9, _ => exact rword_9 w
theorem rword_any (kk : Int) (w : World) : Calls Try.prog 44 #[.int .i64 kk] w fun e w' => e = .returned (.string (wordO kk)) ∧ Kp w w' (fun _ => False) := by
  unfold wordO
  by_cases h : 0 ≤ kk ∧ kk ≤ 9
  · rw [if_pos h]
    obtain ⟨k, rfl⟩ : ∃ k : Nat, kk = (k : Int) := ⟨kk.toNat, by omega⟩
    exact rword_ok k (by omega) w
  · rw [if_neg h]; exact rword_no kk h w
end Go.Proofs.Ytndiddfleidnaaa.Ow
