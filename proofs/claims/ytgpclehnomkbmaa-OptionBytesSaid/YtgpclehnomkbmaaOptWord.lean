/- A kind's word, the program's and the document's. -/
import Derived.Test.YtgpclehnomkbmaaOpt
set_option maxRecDepth 100000
set_option linter.unusedVariables false
set_option linter.unusedSimpArgs false
namespace Go.Proofs.Ytgpclehnomkbmaa.Ow
open Go.RowKit Go.Proofs.YtgpclehnomkbmaaW.PrintWords Go.Proofs.Ytgpclehnomkbmaa.Ds Go.Proofs.Ytgpclehnomkbmaa.Op
open Go.Proofs.Ytgpclehnomkbmaa.Pk (Kp)
def wordO (k : Int) : ByteArray := if 0 ≤ k ∧ k ≤ 9 then wordF k.toNat else ByteArray.empty
theorem R18_0_l : List.range (regOf Try.f18 0).size = [0] := by kernel_rfl
theorem R18_1_l : List.range (regOf Try.f18 1).size = [0, 1, 2, 3, 4, 5, 6, 7] := by kernel_rfl
theorem R18_2_l : List.range (regOf Try.f18 2).size = [0, 1, 2] := by kernel_rfl
theorem body18 : Try.f18.body = some (.seq (.region 0 (regOf Try.f18 0) false) (.seq (.region 1 (regOf Try.f18 1) false) (.seq (.region 2 (regOf Try.f18 2) false) (.ret)))) := by kernel_rfl
theorem p18_0_0 : pj (regOf Try.f18 0) 0 = some (some 2, .assign (.const (.string { data := #[] })), 9, none) := by kernel_rfl
theorem p18_1_0 : pj (regOf Try.f18 1) 0 = some (some 6, .move (.tmp 0), 3, none) := by kernel_rfl
theorem p18_1_1 : pj (regOf Try.f18 1) 1 = some (some 7, .call { callee := .value (.func 57), args := #[.tmp 6], argTypes := #[3] }, 117, none) := by kernel_rfl
theorem cl57 : callable Try.f57 = true := by kernel_rfl
theorem p18_1_2 : pj (regOf Try.f18 1) 2 = some (some 5, .move (.tmp 7), 117, none) := by kernel_rfl
theorem p18_1_3 : pj (regOf Try.f18 1) 3 = some (some 8, .extract (.tmp 5) 0, 116, none) := by kernel_rfl
theorem p18_1_4 : pj (regOf Try.f18 1) 4 = some (some 9, .extract (.tmp 5) 1, 4, none) := by kernel_rfl
theorem p18_1_5 : pj (regOf Try.f18 1) 5 = some (some 3, .alloc 116, 0, none) := by kernel_rfl
theorem tZ116 : (Try.prog.info? 116).bind (·.zero) = some (Value.agg #[Value.string ByteArray.empty, Value.slice none 0 0, Value.int .i64 0, Value.bool false, Value.int .i64 0, Value.int .i64 0]) := by kernel_rfl
theorem p18_1_6 : pj (regOf Try.f18 1) 6 = some (none, .store 116 (.tmp 3) (.tmp 8), 0, none) := by kernel_rfl
theorem tS116 : (Try.prog.info? 116).map (·.size) = some 6 := by kernel_rfl
theorem p18_1_7 : pj (regOf Try.f18 1) 7 = some (some 4, .assign (.tmp 9), 4, none) := by kernel_rfl
theorem p18_2_0 : pj (regOf Try.f18 2) 0 = some (some 10, .fieldAddr 116 (.tmp 3) 0, 0, none) := by kernel_rfl
theorem tS9 : (Try.prog.info? 9).map (·.size) = some 1 := by kernel_rfl
theorem p18_2_1 : pj (regOf Try.f18 2) 1 = some (some 11, .load 9 (.tmp 10), 9, none) := by kernel_rfl
theorem tA9 : (Try.prog.underlying 9).map aggD = some false := by kernel_rfl
theorem p18_2_2 : pj (regOf Try.f18 2) 2 = some (some 2, .assign (.tmp 11), 9, none) := by kernel_rfl
set_option maxHeartbeats 4000000 in
theorem word_any (kk : Int) (w : World) : Calls Try.prog 18 #[.int .i64 kk] w fun e w' => e = .returned (.string (wordO kk)) ∧ Kp w w' (fun _ => False) := by
 have K_0 := Kp.refl w (fun _ => False)
 refine enter (args := [Value.int .i64 kk]) (n := 12) Try.func18 body18 rfl rfl rfl ?_
 intro a hE
 refine c_reg R18_0_l ?_
 refine q0 p18_0_0 hE (st_assign rfl) ?_; clear hE a; intro a hE
 refine p_nil (x_norm ?_)
 rcases Decidable.em (0 ≤ kk ∧ kk ≤ 9) with hKN | hKN
 ·
  obtain ⟨k, rfl⟩ : ∃ k : Nat, kk = (k : Int) := ⟨kk.toNat, by omega⟩
  have hk9 : k ≤ 9 := by omega
  refine c_reg R18_1_l ?_
  refine q0 p18_1_0 hE (st_move rfl) ?_; clear hE a; intro a hE
  refine p_cons (s_call (xs := [Operand.tmp 6]) (args := [Value.int .i64 (k : Int)]) p18_1_1 hE wn_none rfl rfl Try.func57 cl57 (of_ok k hk9 _) ?_)
  rintro e w1 ⟨A1, c1, rfl, hF1, hc1, hk⟩
  replace K_0 := K_0.then_ hk (fun _ h => h.elim)
  refine ⟨_, rfl, ?_⟩; clear hE a; intro a hE
  refine q0 p18_1_2 hE (st_move rfl) ?_; clear hE a; intro a hE
  refine q0 p18_1_3 hE (st_extract rfl rfl) ?_; clear hE a; intro a hE
  refine q0 p18_1_4 hE (st_extract rfl rfl) ?_; clear hE a; intro a hE
  refine p_cons (s_alloc p18_1_5 hE wn_none rfl tZ116 ?_)
  clear hE a; intro g2 w3 z4 B_g2 hk a hE
  replace B_g2 : w3.heap[g2]? = some (.cells #[Value.string ByteArray.empty, Value.slice none 0 0, Value.int .i64 0, Value.bool false, Value.int .i64 0, Value.int .i64 0] 116 (0, 0)) := B_g2
  have z_0_g2 := Nat.le_trans K_0.kept.1 z4
  replace K_0 := K_0.then_ hk (fun _ h => h.elim)
  clear hk
  refine p_cons (s_store (off := 0) (k := 6) (cs' := #[Value.string (wordF k), Value.slice A1 ((sizesF k).length) c1, Value.int .i64 (behindF k), Value.bool (addrF k), Value.int .i64 (lenF k), Value.int .i64 (zeroF k)]) p18_1_6 hE wn_none tS116 rfl rfl rfl rfl B_g2 (Nat.le_of_ble_eq_true rfl) rfl ?_)
  intro w5 B_g2' hk
  replace K_0 := K_0.then_ hk (fun k h => by rw [show k = g2 from h]; exact Or.inr z_0_g2)
  replace B_g2 := B_g2'
  clear hk
  refine q0 p18_1_7 hE (st_assign rfl) ?_; clear hE a; intro a hE
  refine p_nil (x_norm (c_reg R18_2_l ?_))
  refine q0 p18_2_0 hE (st_fieldAddr Try.underlying116 rfl tS9 rfl rfl) ?_; clear hE a; intro a hE
  refine q0 p18_2_1 hE (st_load1 tA9 rfl ((blk_cell B_g2 0).trans rfl)) ?_; clear hE a; intro a hE
  refine q0 p18_2_2 hE (st_assign rfl) ?_; clear hE a; intro a hE
  refine p_nil (x_norm (wp_ret ?_))
  refine ret_one (v := Value.string (wordF k)) rfl hE (.tmp rfl .nil) ?_
  exact ⟨by unfold wordO; rw [if_pos ⟨by omega, by omega⟩]; rfl, K_0⟩
 ·
  refine c_reg R18_1_l ?_
  refine q0 p18_1_0 hE (st_move rfl) ?_; clear hE a; intro a hE
  refine p_cons (s_call (xs := [Operand.tmp 6]) (args := [Value.int .i64 kk]) p18_1_1 hE wn_none rfl rfl Try.func57 cl57 (of_no kk hKN _) ?_)
  rintro e w6 ⟨rfl, hk⟩
  replace K_0 := K_0.then_ hk (fun _ h => h.elim)
  refine ⟨_, rfl, ?_⟩; clear hE a; intro a hE
  refine q0 p18_1_2 hE (st_move rfl) ?_; clear hE a; intro a hE
  refine q0 p18_1_3 hE (st_extract rfl rfl) ?_; clear hE a; intro a hE
  refine q0 p18_1_4 hE (st_extract rfl rfl) ?_; clear hE a; intro a hE
  refine p_cons (s_alloc p18_1_5 hE wn_none rfl tZ116 ?_)
  clear hE a; intro g7 w8 z9 B_g7 hk a hE
  replace B_g7 : w8.heap[g7]? = some (.cells #[Value.string ByteArray.empty, Value.slice none 0 0, Value.int .i64 0, Value.bool false, Value.int .i64 0, Value.int .i64 0] 116 (0, 0)) := B_g7
  have z_0_g7 := Nat.le_trans K_0.kept.1 z9
  replace K_0 := K_0.then_ hk (fun _ h => h.elim)
  clear hk
  refine p_cons (s_store (off := 0) (k := 6) (cs' := #[Value.string ByteArray.empty, Value.slice none 0 0, Value.int .i64 0, Value.bool false, Value.int .i64 0, Value.int .i64 0]) p18_1_6 hE wn_none tS116 rfl rfl rfl rfl B_g7 (Nat.le_of_ble_eq_true rfl) rfl ?_)
  intro w10 B_g7' hk
  replace K_0 := K_0.then_ hk (fun k h => by rw [show k = g7 from h]; exact Or.inr z_0_g7)
  replace B_g7 := B_g7'
  clear hk
  refine q0 p18_1_7 hE (st_assign rfl) ?_; clear hE a; intro a hE
  refine p_nil (x_norm (c_reg R18_2_l ?_))
  refine q0 p18_2_0 hE (st_fieldAddr Try.underlying116 rfl tS9 rfl rfl) ?_; clear hE a; intro a hE
  refine q0 p18_2_1 hE (st_load1 tA9 rfl ((blk_cell B_g7 0).trans rfl)) ?_; clear hE a; intro a hE
  refine q0 p18_2_2 hE (st_assign rfl) ?_; clear hE a; intro a hE
  refine p_nil (x_norm (wp_ret ?_))
  refine ret_one (v := Value.string ByteArray.empty) rfl hE (.tmp rfl .nil) ?_
  exact ⟨by unfold wordO; rw [if_neg hKN], K_0⟩
end Go.Proofs.Ytgpclehnomkbmaa.Ow
