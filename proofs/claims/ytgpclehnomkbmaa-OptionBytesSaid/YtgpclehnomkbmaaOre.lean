/- The program's reader of options: the next one, all of them. -/
import Derived.Test.YtgpclehnomkbmaaOrd
set_option maxRecDepth 100000
set_option linter.unusedVariables false
set_option linter.unusedSimpArgs false
namespace Go.Proofs.Ytgpclehnomkbmaa.Re
open Go.RowKit Go.Proofs.YtgpclehnomkbmaaW.PrintWords Go.Proofs.Ytgpclehnomkbmaa.Ds Go.Proofs.Ytgpclehnomkbmaa.Op Go.Proofs.Ytgpclehnomkbmaa.Oc Go.Proofs.Ytgpclehnomkbmaa.Or Go.Proofs.Ytgpclehnomkbmaa.Ow Go.Proofs.Ytgpclehnomkbmaa.Ob Go.Proofs.Ytgpclehnomkbmaa.Oe Go.Proofs.Ytgpclehnomkbmaa.Opd Go.Proofs.Ytgpclehnomkbmaa.Rd
open Go.Proofs.Ytgpclehnomkbmaa.Pk (Kp fitsF spanF putF digF fits_any put_ok C_take)
open Go.Proofs.Ytgpclehnomkbmaa.Cu (joinF isB lN pN rN okc clF)
theorem lN_bd1 {l : List Int} (hb : isB l) (p : Nat) (r : Int) : 0 ≤ joinF (lN l p 1 r) ∧ joinF (lN l p 1 r) ≤ 255 := by
 by_cases h : okc l.length p 1 r
 ·
  rw [show lN l p 1 r = (l.drop p).take 1 from if_pos h]
  have hl := h.2
  rw [rd_head (by rw [List.length_drop]; omega)]
  have h0 := rd_isB (b := l.drop p) (isB_drop hb p) (j := 0) (by rw [List.length_drop]; omega)
  show 0 ≤ 0 * 256 + rd (l.drop p) ((0 : Nat) : Int) ∧ 0 * 256 + rd (l.drop p) ((0 : Nat) : Int) ≤ 255
  omega
 · rw [show lN l p 1 r = [] from if_neg h]; decide
theorem R52_0_l : List.range (regOf Try.f52 0).size = [0, 1, 2] := by kernel_rfl
theorem R52_1_l : List.range (regOf Try.f52 1).size = [0, 1, 2, 3] := by kernel_rfl
theorem R52_2_l : List.range (regOf Try.f52 2).size = [0, 1, 2, 3, 4, 5, 6, 7] := by kernel_rfl
theorem R52_3_l : List.range (regOf Try.f52 3).size = [0, 1] := by kernel_rfl
theorem R52_4_l : List.range (regOf Try.f52 4).size = [0, 1, 2] := by kernel_rfl
theorem R52_5_l : List.range (regOf Try.f52 5).size = [0, 1] := by kernel_rfl
theorem R52_6_l : List.range (regOf Try.f52 6).size = [0, 1, 2] := by kernel_rfl
theorem R52_8_l : List.range (regOf Try.f52 8).size = [0, 1, 2, 3] := by kernel_rfl
theorem R52_9_l : List.range (regOf Try.f52 9).size = [0, 1] := by kernel_rfl
theorem R52_10_l : List.range (regOf Try.f52 10).size = [0, 1, 2, 3] := by kernel_rfl
theorem R52_11_l : List.range (regOf Try.f52 11).size = [0, 1, 2, 3, 4, 5] := by kernel_rfl
theorem R52_12_l : List.range (regOf Try.f52 12).size = [0, 1, 2, 3] := by kernel_rfl
theorem R52_13_l : List.range (regOf Try.f52 13).size = [0, 1] := by kernel_rfl
theorem R52_14_l : List.range (regOf Try.f52 14).size = [0, 1, 2, 3] := by kernel_rfl
theorem body52 : Try.f52.body = some (.seq (.region 0 (regOf Try.f52 0) false) (.seq (.region 1 (regOf Try.f52 1) false) (.seq (.region 2 (regOf Try.f52 2) false) (.seq (.seq (.region 3 (regOf Try.f52 3) false) (.cond (Operand.tmp 20) (.seq (.region 4 (regOf Try.f52 4) false) (.ret)) (.skip))) (.seq (.seq (.region 5 (regOf Try.f52 5) false) (.cond (Operand.tmp 23) (.seq (.region 6 (regOf Try.f52 6) false) (.ret)) (.skip))) (.seq (.region 7 (regOf Try.f52 7) true) (.seq (.seq (.region 8 (regOf Try.f52 8) false) (.seq (.region 9 (regOf Try.f52 9) false) (.cond (Operand.tmp 36) (.seq (.region 10 (regOf Try.f52 10) false) (.ret)) (.skip)))) (.seq (.region 11 (regOf Try.f52 11) false) (.seq (.seq (.region 12 (regOf Try.f52 12) false) (.seq (.region 13 (regOf Try.f52 13) false) (.cond (Operand.tmp 47) (.seq (.region 14 (regOf Try.f52 14) false) (.ret)) (.skip)))) (.seq (.region 15 (regOf Try.f52 15) true) (.ret))))))))))) := by kernel_rfl
theorem p52_0_0 : pj (regOf Try.f52 0) 0 = some (some 1, .box 107 (.tmp 0), 0, none) := by kernel_rfl
theorem p52_0_1 : pj (regOf Try.f52 0) 1 = some (some 2, .alloc 50, 0, none) := by kernel_rfl
theorem tZ50 : (Try.prog.info? 50).bind (·.zero) = some (Value.agg (([Value.int .i64 0, Value.slice none 0 0] ++ b16 (fun _ => 0) ++ [Value.slice none 0 0])).toArray) := by kernel_rfl
theorem p52_0_2 : pj (regOf Try.f52 0) 2 = some (some 3, .assign (.const (.int .i64 0)), 24, none) := by kernel_rfl
theorem p52_1_0 : pj (regOf Try.f52 1) 0 = some (some 11, .fieldAddr 107 (.tmp 1) 0, 0, none) := by kernel_rfl
theorem tS104 : (Try.prog.info? 104).map (·.size) = some 1 := by kernel_rfl
theorem p52_1_1 : pj (regOf Try.f52 1) 1 = some (some 12, .load 104 (.tmp 11), 104, none) := by kernel_rfl
theorem tA104 : (Try.prog.underlying 104).map aggD = some false := by kernel_rfl
theorem p52_1_2 : pj (regOf Try.f52 1) 2 = some (some 13, .call { callee := .value (.func 109), args := #[.tmp 12, .const (.int .i64 1)], argTypes := #[104, 3] }, 3, none) := by kernel_rfl
theorem cl109 : callable Try.f109 = true := by kernel_rfl
theorem p52_1_3 : pj (regOf Try.f52 1) 3 = some (some 4, .assign (.tmp 13), 3, none) := by kernel_rfl
theorem p52_2_0 : pj (regOf Try.f52 2) 0 = some (some 15, .move (.tmp 4), 3, none) := by kernel_rfl
theorem p52_2_1 : pj (regOf Try.f52 2) 1 = some (some 16, .call { callee := .value (.func 57), args := #[.tmp 15], argTypes := #[3] }, 117, none) := by kernel_rfl
theorem cl57 : callable Try.f57 = true := by kernel_rfl
theorem p52_2_2 : pj (regOf Try.f52 2) 2 = some (some 14, .move (.tmp 16), 117, none) := by kernel_rfl
theorem p52_2_3 : pj (regOf Try.f52 2) 3 = some (some 17, .extract (.tmp 14) 0, 116, none) := by kernel_rfl
theorem p52_2_4 : pj (regOf Try.f52 2) 4 = some (some 18, .extract (.tmp 14) 1, 4, none) := by kernel_rfl
theorem p52_2_5 : pj (regOf Try.f52 2) 5 = some (some 5, .alloc 116, 0, none) := by kernel_rfl
theorem tZ116 : (Try.prog.info? 116).bind (·.zero) = some (Value.agg #[Value.string ByteArray.empty, Value.slice none 0 0, Value.int .i64 0, Value.bool false, Value.int .i64 0, Value.int .i64 0]) := by kernel_rfl
theorem p52_2_6 : pj (regOf Try.f52 2) 6 = some (none, .store 116 (.tmp 5) (.tmp 17), 0, none) := by kernel_rfl
theorem tS116 : (Try.prog.info? 116).map (·.size) = some 6 := by kernel_rfl
theorem p52_2_7 : pj (regOf Try.f52 2) 7 = some (some 6, .assign (.tmp 18), 4, none) := by kernel_rfl
theorem p52_3_0 : pj (regOf Try.f52 3) 0 = some (some 19, .move (.tmp 6), 4, none) := by kernel_rfl
theorem p52_3_1 : pj (regOf Try.f52 3) 1 = some (some 20, .unOp .not 4 (.tmp 19), 4, none) := by kernel_rfl
theorem p52_5_0 : pj (regOf Try.f52 5) 0 = some (some 22, .move (.tmp 4), 3, none) := by kernel_rfl
theorem p52_5_1 : pj (regOf Try.f52 5) 1 = some (some 23, .binOp .eql 3 (.tmp 22) (.const (.int .i64 0)) 3, 4, none) := by kernel_rfl
theorem p52_6_0 : pj (regOf Try.f52 6) 0 = some (some 24, .build 50 #[], 50, none) := by kernel_rfl
theorem p52_6_1 : pj (regOf Try.f52 6) 1 = some (none, .store 50 (.tmp 2) (.tmp 24), 0, none) := by kernel_rfl
theorem tS50 : (Try.prog.info? 50).map (·.size) = some 19 := by kernel_rfl
theorem p52_6_2 : pj (regOf Try.f52 6) 2 = some (some 3, .assign (.const (.int .i64 0)), 24, none) := by kernel_rfl
theorem tA50 : (Try.prog.underlying 50).map aggD = some true := by kernel_rfl
theorem ns52_7 : Region.noSelect (regOf Try.f52 7) = true := by kernel_rfl
theorem p52_7_0 : pj (regOf Try.f52 7) 0 = some (some 25, .fieldAddr 107 (.tmp 1) 0, 0, none) := by kernel_rfl
theorem p52_7_1 : pj (regOf Try.f52 7) 1 = some (some 26, .load 104 (.tmp 25), 104, none) := by kernel_rfl
theorem p52_7_2 : pj (regOf Try.f52 7) 2 = some (some 27, .fieldAddr 107 (.tmp 1) 0, 0, none) := by kernel_rfl
theorem p52_7_3 : pj (regOf Try.f52 7) 3 = some (some 28, .load 104 (.tmp 27), 104, none) := by kernel_rfl
theorem p52_7_4 : pj (regOf Try.f52 7) 4 = some (some 29, .call { callee := .value (.func 109), args := #[.tmp 28, .const (.int .i64 1)], argTypes := #[104, 3] }, 3, none) := by kernel_rfl
theorem p52_7_7 : pj (regOf Try.f52 7) 7 = some (some 7, .alloc 107, 0, none) := by kernel_rfl
theorem tZ107 : (Try.prog.info? 107).bind (·.zero) = some (Value.agg #[Value.pointer none]) := by kernel_rfl
theorem p52_7_5 : pj (regOf Try.f52 7) 5 = some (some 30, .call { callee := .value (.func 110), args := #[.tmp 26, .tmp 29], argTypes := #[104, 3] }, 104, none) := by kernel_rfl
theorem cl110 : callable Try.f110 = true := by kernel_rfl
theorem p52_7_6 : pj (regOf Try.f52 7) 6 = some (some 31, .build 107 #[(0, .tmp 30)], 107, none) := by kernel_rfl
theorem p52_7_8 : pj (regOf Try.f52 7) 8 = some (none, .store 107 (.tmp 7) (.tmp 31), 0, none) := by kernel_rfl
theorem tS107 : (Try.prog.info? 107).map (·.size) = some 1 := by kernel_rfl
theorem p52_8_0 : pj (regOf Try.f52 8) 0 = some (some 32, .fieldAddr 107 (.tmp 7) 0, 0, none) := by kernel_rfl
theorem p52_8_1 : pj (regOf Try.f52 8) 1 = some (some 33, .load 104 (.tmp 32), 104, none) := by kernel_rfl
theorem p52_8_2 : pj (regOf Try.f52 8) 2 = some (some 34, .call { callee := .value (.func 66), args := #[.tmp 33], argTypes := #[104] }, 24, none) := by kernel_rfl
theorem cl66 : callable Try.f66 = true := by kernel_rfl
theorem p52_8_3 : pj (regOf Try.f52 8) 3 = some (some 8, .assign (.tmp 34), 24, none) := by kernel_rfl
theorem p52_9_0 : pj (regOf Try.f52 9) 0 = some (some 35, .move (.tmp 8), 24, none) := by kernel_rfl
theorem p52_9_1 : pj (regOf Try.f52 9) 1 = some (some 36, .binOp .neq 24 (.tmp 35) (.const (.int .i64 0)) 24, 4, none) := by kernel_rfl
theorem p52_11_0 : pj (regOf Try.f52 11) 0 = some (some 39, .load 107 (.tmp 7), 107, none) := by kernel_rfl
theorem tA107 : (Try.prog.underlying 107).map aggD = some true := by kernel_rfl
theorem p52_11_1 : pj (regOf Try.f52 11) 1 = some (some 40, .move (.tmp 4), 3, none) := by kernel_rfl
theorem p52_11_2 : pj (regOf Try.f52 11) 2 = some (some 41, .load 116 (.tmp 5), 116, none) := by kernel_rfl
theorem tA116 : (Try.prog.underlying 116).map aggD = some true := by kernel_rfl
theorem p52_11_3 : pj (regOf Try.f52 11) 3 = some (some 42, .call { callee := .value (.func 111), args := #[.tmp 39, .tmp 40, .tmp 41], argTypes := #[107, 3, 116] }, 50, none) := by kernel_rfl
theorem cl111 : callable Try.f111 = true := by kernel_rfl
theorem p52_11_4 : pj (regOf Try.f52 11) 4 = some (some 9, .alloc 50, 0, none) := by kernel_rfl
theorem p52_11_5 : pj (regOf Try.f52 11) 5 = some (none, .store 50 (.tmp 9) (.tmp 42), 0, none) := by kernel_rfl
theorem p52_12_0 : pj (regOf Try.f52 12) 0 = some (some 43, .fieldAddr 107 (.tmp 7) 0, 0, none) := by kernel_rfl
theorem p52_12_1 : pj (regOf Try.f52 12) 1 = some (some 44, .load 104 (.tmp 43), 104, none) := by kernel_rfl
theorem p52_12_2 : pj (regOf Try.f52 12) 2 = some (some 45, .call { callee := .value (.func 112), args := #[.tmp 44], argTypes := #[104] }, 24, none) := by kernel_rfl
theorem cl112 : callable Try.f112 = true := by kernel_rfl
theorem p52_12_3 : pj (regOf Try.f52 12) 3 = some (some 10, .assign (.tmp 45), 24, none) := by kernel_rfl
theorem p52_13_0 : pj (regOf Try.f52 13) 0 = some (some 46, .move (.tmp 10), 24, none) := by kernel_rfl
theorem p52_13_1 : pj (regOf Try.f52 13) 1 = some (some 47, .binOp .neq 24 (.tmp 46) (.const (.int .i64 0)) 24, 4, none) := by kernel_rfl
theorem ns52_15 : Region.noSelect (regOf Try.f52 15) = true := by kernel_rfl
theorem p52_15_0 : pj (regOf Try.f52 15) 0 = some (some 50, .load 50 (.tmp 9), 50, none) := by kernel_rfl
theorem p52_15_1 : pj (regOf Try.f52 15) 1 = some (some 51, .load 50 (.tmp 9), 50, none) := by kernel_rfl
theorem p52_15_2 : pj (regOf Try.f52 15) 2 = some (some 52, .call { callee := .value (.func 22), args := #[.tmp 51], argTypes := #[50] }, 24, none) := by kernel_rfl
theorem cl22 : callable Try.f22 = true := by kernel_rfl
theorem p52_15_3 : pj (regOf Try.f52 15) 3 = some (none, .store 50 (.tmp 2) (.tmp 50), 0, none) := by kernel_rfl
theorem p52_15_4 : pj (regOf Try.f52 15) 4 = some (some 3, .assign (.tmp 52), 24, none) := by kernel_rfl
theorem p52_14_0 : pj (regOf Try.f52 14) 0 = some (some 48, .build 50 #[], 50, none) := by kernel_rfl
theorem p52_14_1 : pj (regOf Try.f52 14) 1 = some (some 49, .move (.tmp 10), 24, none) := by kernel_rfl
theorem p52_14_2 : pj (regOf Try.f52 14) 2 = some (none, .store 50 (.tmp 2) (.tmp 48), 0, none) := by kernel_rfl
theorem p52_14_3 : pj (regOf Try.f52 14) 3 = some (some 3, .assign (.tmp 49), 24, none) := by kernel_rfl
theorem p52_10_0 : pj (regOf Try.f52 10) 0 = some (some 37, .build 50 #[], 50, none) := by kernel_rfl
theorem p52_10_1 : pj (regOf Try.f52 10) 1 = some (some 38, .move (.tmp 8), 24, none) := by kernel_rfl
theorem p52_10_2 : pj (regOf Try.f52 10) 2 = some (none, .store 50 (.tmp 2) (.tmp 37), 0, none) := by kernel_rfl
theorem p52_10_3 : pj (regOf Try.f52 10) 3 = some (some 3, .assign (.tmp 38), 24, none) := by kernel_rfl
theorem p52_4_0 : pj (regOf Try.f52 4) 0 = some (some 21, .build 50 #[], 50, none) := by kernel_rfl
theorem p52_4_1 : pj (regOf Try.f52 4) 1 = some (none, .store 50 (.tmp 2) (.tmp 21), 0, none) := by kernel_rfl
theorem p52_4_2 : pj (regOf Try.f52 4) 2 = some (some 3, .assign (.const (.int .i64 6)), 24, none) := by kernel_rfl
set_option maxHeartbeats 4000000 in
theorem next_c (g : Nat) (A : Option Addr) (c : Nat) (l : List Int) (p : Nat) (hp : p < l.length) (w : World) (hl : l.length ≤ 1000000) (hc : l.length ≤ c) (hc2 : c ≤ 9223372036854775807) (hb : isB l) (B_g : w.heap[g]? = some (.cells #[.slice A l.length c, .int .i64 (p : Int), .int .i64 0] 188 (0, 0))) (F_A : ∀ W', Kp w W' (fun k => k = g) → Kd.C (Kd.int .u8) W' A l.length l) : Calls Try.prog 52 #[Value.agg #[Value.pointer (some ⟨g, 0, none⟩)]] w fun e w' => ∃ B q T ct, ∃ x : OV, ∃ p' : Nat, ∃ r' : Int, e = .returned (.tuple #[Value.agg (([Value.int .i64 x.1, Value.slice B x.2.1.length q] ++ b16 (adr x) ++ [Value.slice T x.2.2.2.length ct])).toArray, .int .i64 (nextO (l.drop p)).1]) ∧ x.2.1.length ≤ q ∧ x.2.2.2.length ≤ ct ∧ (∀ W', Kp w' W' (fun k => k < w.heap.size) → Kd.C (Kd.int .i64) W' B x.2.1.length x.2.1) ∧ (∀ W', Kp w' W' (fun k => k < w.heap.size) → Kd.C (Kd.int .u8) W' T x.2.2.2.length x.2.2.2) ∧ w'.heap[g]? = some (.cells #[.slice A l.length c, .int .i64 (p' : Int), .int .i64 r'] 188 (0, 0)) ∧ ((nextO (l.drop p)).1 = 0 → x = (nextO (l.drop p)).2.1 ∧ p' = p + (nextO (l.drop p)).2.2 ∧ r' = 0) ∧ Kp w w' (fun k => k = g) := by
 have K_0 := Kp.refl w (fun k => k = g)
 refine enter (args := [Value.agg #[Value.pointer (some ⟨g, 0, none⟩)]]) (n := 53) Try.func52 body52 rfl rfl rfl ?_
 intro a hE
 refine c_reg R52_0_l ?_
 refine p_cons (s_box p52_0_0 hE wn_none rfl rfl ?_)
 clear hE a; intro g1 w2 z3 B_g1 hk a hE
 replace B_g1 : w2.heap[g1]? = some (.cells #[Value.pointer (some ⟨g, 0, none⟩)] 107 (0, 0)) := B_g1
 have n_g_g1 : g ≠ g1 := ne_new B_g z3
 have z_0_g1 := Nat.le_trans K_0.kept.1 z3
 replace B_g := kp_blk B_g hk (fun h => h)
 replace K_0 := K_0.then_ hk (fun _ h => h.elim)
 clear hk
 refine p_cons (s_alloc p52_0_1 hE wn_none rfl tZ50 ?_)
 clear hE a; intro g4 w5 z6 B_g4 hk a hE
 replace B_g4 : w5.heap[g4]? = some (.cells (([Value.int .i64 0, Value.slice none 0 0] ++ b16 (fun _ => 0) ++ [Value.slice none 0 0])).toArray 50 (0, 0)) := B_g4
 have n_g_g4 : g ≠ g4 := ne_new B_g z6
 have n_g1_g4 : g1 ≠ g4 := ne_new B_g1 z6
 have z_0_g4 := Nat.le_trans K_0.kept.1 z6
 replace B_g := kp_blk B_g hk (fun h => h)
 replace B_g1 := kp_blk B_g1 hk (fun h => h)
 replace K_0 := K_0.then_ hk (fun _ h => h.elim)
 clear hk
 refine q0 p52_0_2 hE (st_assign rfl) ?_; clear hE a; intro a hE
 refine p_nil (x_norm (c_reg R52_1_l ?_))
 refine q0 p52_1_0 hE (st_fieldAddr Try.underlying107 rfl tS104 rfl rfl) ?_; clear hE a; intro a hE
 refine q0 p52_1_1 hE (st_load1 tA104 rfl ((blk_cell B_g1 0).trans rfl)) ?_; clear hE a; intro a hE
 refine p_cons (s_call (xs := [Operand.tmp 12, Operand.const (Value.int IntKind.i64 1)]) (args := [Value.pointer (some ⟨g, 0, none⟩), Value.int .i64 1]) p52_1_2 hE wn_none rfl rfl Try.func109 cl109 (Go.Proofs.Ytgpclehnomkbmaa.Cu.take_e g A c l p 1 0 1 rfl (p + 1) 0 (pN_ok (by omega) rfl) (rN_ok (by omega)) _ (by omega) (by omega) (by omega) (by omega) (rd l (p : Int)) (lN_one hp) (by omega) (by decide) hb B_g (fun W hk => F_A W (K_0.then_ hk (fun k h => by rw [show k = g from h]; exact Or.inl rfl)))) ?_)
 rintro e w7 ⟨rfl, B_g', hk⟩
 replace B_g1 := kp_blk B_g1 hk (Ne.symm n_g_g1)
 replace B_g4 := kp_blk B_g4 hk (Ne.symm n_g_g4)
 replace K_0 := K_0.then_ hk (fun k h => by rw [show k = g from h]; exact Or.inl rfl)
 replace B_g := B_g'
 refine ⟨_, rfl, ?_⟩; clear hE a; intro a hE
 refine q0 p52_1_3 hE (st_assign rfl) ?_; clear hE a; intro a hE
 refine p_nil (x_norm ?_)
 rcases Decidable.em (0 ≤ rd l (p : Int) ∧ rd l (p : Int) ≤ 9) with hKN | hKN
 ·
  obtain ⟨k, hke⟩ : ∃ k : Nat, rd l (p : Int) = (k : Int) := ⟨(rd l (p : Int)).toNat, by omega⟩
  have hk9 : k ≤ 9 := by omega
  rw [hke] at hE
  refine c_reg R52_2_l ?_
  refine q0 p52_2_0 hE (st_move rfl) ?_; clear hE a; intro a hE
  have hlt_g := blk_lt B_g
  have hlt_g1 := blk_lt B_g1
  have hlt_g4 := blk_lt B_g4
  refine p_cons (s_call (xs := [Operand.tmp 15]) (args := [Value.int .i64 (k : Int)]) p52_2_1 hE wn_none rfl rfl Try.func57 cl57 (of_okS k hk9 _) ?_)
  rintro e w8 ⟨A1, c1, rfl, hF1, hc1, hk⟩
  replace B_g := kp_blk B_g hk (fun h => h)
  replace B_g1 := kp_blk B_g1 hk (fun h => h)
  replace B_g4 := kp_blk B_g4 hk (fun h => h)
  replace K_0 := K_0.then_ hk (fun _ h => h.elim)
  have K_s9 := Kp.refl w8 (fun k => k = g ∨ k = g1 ∨ k = g4)
  have F_1 : ∀ W', Kp w8 W' (fun k => k = g ∨ k = g1 ∨ k = g4) → Kd.C (Kd.int .i64) W' A1 (sizesF k).length (sizesF k) := fun W' hk => hF1 W' (hk.mono (fun k h => by have h : k = g ∨ k = g1 ∨ k = g4 := h; omega))
  refine ⟨_, rfl, ?_⟩; clear hE a; intro a hE
  refine q0 p52_2_2 hE (st_move rfl) ?_; clear hE a; intro a hE
  refine q0 p52_2_3 hE (st_extract rfl rfl) ?_; clear hE a; intro a hE
  refine q0 p52_2_4 hE (st_extract rfl rfl) ?_; clear hE a; intro a hE
  refine p_cons (s_alloc p52_2_5 hE wn_none rfl tZ116 ?_)
  clear hE a; intro g10 w11 z12 B_g10 hk a hE
  replace B_g10 : w11.heap[g10]? = some (.cells #[Value.string ByteArray.empty, Value.slice none 0 0, Value.int .i64 0, Value.bool false, Value.int .i64 0, Value.int .i64 0] 116 (0, 0)) := B_g10
  have n_g_g10 : g ≠ g10 := ne_new B_g z12
  have n_g1_g10 : g1 ≠ g10 := ne_new B_g1 z12
  have n_g4_g10 : g4 ≠ g10 := ne_new B_g4 z12
  have z_0_g10 := Nat.le_trans K_0.kept.1 z12
  have z_s9_g10 := Nat.le_trans K_s9.kept.1 z12
  replace B_g := kp_blk B_g hk (fun h => h)
  replace B_g1 := kp_blk B_g1 hk (fun h => h)
  replace B_g4 := kp_blk B_g4 hk (fun h => h)
  replace K_0 := K_0.then_ hk (fun _ h => h.elim)
  replace K_s9 := K_s9.then_ hk (fun _ h => h.elim)
  clear hk
  refine p_cons (s_store (off := 0) (k := 6) (cs' := #[Value.string (wordF k), Value.slice A1 ((sizesF k).length) c1, Value.int .i64 (behindF k), Value.bool (addrF k), Value.int .i64 (lenF k), Value.int .i64 (zeroF k)]) p52_2_6 hE wn_none tS116 rfl rfl rfl rfl B_g10 (Nat.le_of_ble_eq_true rfl) rfl ?_)
  intro w13 B_g10' hk
  replace B_g := kp_blk B_g hk n_g_g10
  replace B_g1 := kp_blk B_g1 hk n_g1_g10
  replace B_g4 := kp_blk B_g4 hk n_g4_g10
  replace K_0 := K_0.then_ hk (fun k h => by rw [show k = g10 from h]; exact Or.inr z_0_g10)
  replace K_s9 := K_s9.then_ hk (fun k h => by rw [show k = g10 from h]; exact Or.inr z_s9_g10)
  replace B_g10 := B_g10'
  clear hk
  refine q0 p52_2_7 hE (st_assign rfl) ?_; clear hE a; intro a hE
  refine p_nil (x_norm (wp_seq (c_reg R52_3_l ?_)))
  refine q0 p52_3_0 hE (st_move rfl) ?_; clear hE a; intro a hE
  refine q0 p52_3_1 hE (st_not rfl rfl) ?_; clear hE a; intro a hE
  refine p_nil (x_norm ?_)
  refine c_cond (t := false) hE rfl ?_
  refine wp_skip (x_norm (wp_seq (c_reg R52_5_l ?_)))
  refine q0 p52_5_0 hE (st_move rfl) ?_; clear hE a; intro a hE
  rcases Decidable.em ((k : Int) = 0) with hc14 | hc14
  ·
   refine p_cons (s_still (v := Value.bool true) p52_5_1 hE wn_none rfl (st_eql rfl rfl (decide_eq_true hc14)) ?_); clear hE a; intro a hE
   refine p_nil (x_norm ?_)
   refine c_cond (t := true) hE rfl ?_
   refine c_reg R52_6_l ?_
   refine q0 p52_6_0 hE (st_build (xs := []) (vs := []) (cs := (([Value.int .i64 0, Value.slice none 0 0] ++ b16 (fun _ => 0) ++ [Value.slice none 0 0])).toArray) rfl (by kernel_rfl)) ?_; clear hE a; intro a hE
   refine p_cons (s_store (off := 0) (k := 19) (cs' := (([Value.int .i64 0, Value.slice none 0 0] ++ b16 (fun _ => 0) ++ [Value.slice none 0 0])).toArray) p52_6_1 hE wn_none tS50 rfl rfl rfl rfl B_g4 (Nat.le_of_ble_eq_true rfl) rfl ?_)
   intro w15 B_g4' hk
   replace B_g := kp_blk B_g hk n_g_g4
   replace B_g1 := kp_blk B_g1 hk n_g1_g4
   replace B_g10 := kp_blk B_g10 hk (Ne.symm n_g4_g10)
   replace K_0 := K_0.then_ hk (fun k h => by rw [show k = g4 from h]; exact Or.inr z_0_g4)
   replace K_s9 := K_s9.then_ hk (fun k h => by rw [show k = g4 from h]; exact Or.inl (Or.inr (Or.inr rfl)))
   replace B_g4 := B_g4'
   clear hk
   refine q0 p52_6_2 hE (st_assign rfl) ?_; clear hE a; intro a hE
   refine p_nil (x_norm (wp_ret (x_ret ?_)))
   refine ret_list (rs := [.cell 2 50, .tmp 3]) (vs := [Value.agg (([Value.int .i64 0, Value.slice none 0 0] ++ b16 (fun _ => 0) ++ [Value.slice none 0 0])).toArray, Value.int .i64 0]) rfl hE (.cellN (us := ([Value.int .i64 0, Value.slice none 0 0] ++ b16 (fun _ => 0) ++ [Value.slice none 0 0])) tA50 tS50 rfl B_g4 rfl (.tmp rfl .nil)) rfl ?_
   have hne9 := next_pad (l := l) (p := p) (by omega)
   exact ⟨none, 0, none, 0, (0, [], l16 (fun _ => 0), []), ((p + 1)), 0, by rw [hne9]; rfl, Nat.le_refl _, Nat.le_refl _, fun W' hk => Kd.C_nil _ _, fun W' hk => Kd.C_nil _ _, B_g, fun _ => by rw [hne9]; exact ⟨rfl, rfl, rfl⟩, K_0⟩
  ·
   refine p_cons (s_still (v := Value.bool false) p52_5_1 hE wn_none rfl (st_eql rfl rfl (decide_eq_false hc14)) ?_); clear hE a; intro a hE
   refine p_nil (x_norm ?_)
   refine c_cond (t := false) hE rfl ?_
   refine wp_skip (x_norm ?_)
   obtain ⟨v, hv9⟩ : ∃ v, joinF (lN l (p + 1) 1 0) = v := ⟨_, rfl⟩
   have hvb9 := lN_bd1 hb (p + 1) 0
   rw [hv9] at hvb9
   obtain ⟨n, hvn9⟩ : ∃ n : Nat, v = (n : Int) := ⟨v.toNat, by omega⟩
   obtain ⟨p2, hp29⟩ : ∃ q, pN l.length (p + 1) 1 0 = q := ⟨_, rfl⟩
   obtain ⟨r2, hr29⟩ : ∃ q, rN l.length (p + 1) 1 0 = q := ⟨_, rfl⟩
   have hp2l : p2 ≤ l.length := by rw [← hp29]; exact Go.Proofs.Ytgpclehnomkbmaa.Cu.pN_le (by omega) _ _
   obtain ⟨p3, hp39⟩ : ∃ q, pN l.length p2 n r2 = q := ⟨_, rfl⟩
   obtain ⟨r3, hr39⟩ : ∃ q, rN l.length p2 n r2 = q := ⟨_, rfl⟩
   obtain ⟨d, hd9⟩ : ∃ q, lN l p2 n r2 = q := ⟨_, rfl⟩
   have hk1 : 1 ≤ k := by omega
   obtain ⟨hnr1, hnr2⟩ := next_read hke hk1 hk9 hp hb hv9 hvn9 hp29 hr29 hp39 hr39 hd9
   refine c_drawMS (S := fun W => W.heap[g1]? = some (.cells #[Value.pointer (some ⟨g, 0, none⟩)] 107 (0, 0)) ∧ W.heap[g4]? = some (.cells (([Value.int .i64 0, Value.slice none 0 0] ++ b16 (fun _ => 0) ++ [Value.slice none 0 0])).toArray 50 (0, 0)) ∧ W.heap[g10]? = some (.cells #[Value.string (wordF k), Value.slice A1 ((sizesF k).length) c1, Value.int .i64 (behindF k), Value.bool (addrF k), Value.int .i64 (lenF k), Value.int .i64 (zeroF k)] 116 (0, 0)) ∧ True) rfl rfl (listed := #[false, false, false, false, false, false, false, false, false]) rfl pan_body (fun QQ hQ hend => ?_)
   have dr7_6 : ∀ (A7_5 : Option Addr) (c7_5 : Nat) (g7_7 : Nat) (u7_5 : Nat) (W : World) (a : Act), En 53 a [(0, Value.agg #[Value.pointer (some ⟨g, 0, none⟩)]), (1, Value.pointer (some ⟨g1, 0, none⟩)), (2, Value.pointer (some ⟨g4, 0, none⟩)), (3, Value.int .i64 0), (4, Value.int .i64 (k : Int)), (5, Value.pointer (some ⟨g10, 0, none⟩)), (6, Value.bool true), (7, Value.pointer (some ⟨g7_7, 0, none⟩)), (20, Value.bool false), (23, Value.bool false), (25, Value.pointer (some ⟨g1, 0, none⟩)), (26, Value.pointer (some ⟨g, 0, none⟩)), (27, Value.pointer (some ⟨g1, 0, none⟩)), (28, Value.pointer (some ⟨g, 0, none⟩)), (29, Value.int .i64 v), (30, Value.pointer (some ⟨u7_5, 0, none⟩)), (31, Value.agg #[Value.pointer (some ⟨u7_5, 0, none⟩)])] → W.heap[g]? = some (.cells #[Value.slice A l.length c, Value.int .i64 (p3 : Int), Value.int .i64 r3] 188 (0, 0)) → W.heap[g1]? = some (.cells #[Value.pointer (some ⟨g, 0, none⟩)] 107 (0, 0)) → W.heap[g4]? = some (.cells (([Value.int .i64 0, Value.slice none 0 0] ++ b16 (fun _ => 0) ++ [Value.slice none 0 0])).toArray 50 (0, 0)) → W.heap[g10]? = some (.cells #[Value.string (wordF k), Value.slice A1 ((sizesF k).length) c1, Value.int .i64 (behindF k), Value.bool (addrF k), Value.int .i64 (lenF k), Value.int .i64 (zeroF k)] 116 (0, 0)) → W.heap[g7_7]? = some (.cells #[Value.pointer (some ⟨u7_5, 0, none⟩)] 107 (0, 0)) → W.heap[u7_5]? = some (.cells #[Value.slice A7_5 d.length c7_5, Value.int .i64 0, Value.int .i64 r3] 188 (0, 0)) → g ≠ g7_7 → g ≠ u7_5 → g1 ≠ g7_7 → g1 ≠ u7_5 → g10 ≠ g4 → g10 ≠ g7_7 → g10 ≠ u7_5 → g4 ≠ g7_7 → g4 ≠ u7_5 → g7_7 ≠ u7_5 → w.heap.size ≤ g7_7 → w.heap.size ≤ u7_5 → w8.heap.size ≤ g7_7 → w8.heap.size ≤ u7_5 → ¬ OB A7_5 g → ¬ OB A7_5 g1 → ¬ OB A7_5 g4 → ¬ OB A7_5 g10 → ¬ OB A7_5 g7_7 → ¬ OB A7_5 u7_5 → (∀ k, OB A7_5 k → (fun k => k = g) k ∨ w.heap.size ≤ k) → (∀ k, OB A7_5 k → (fun k => k = g ∨ k = g1 ∨ k = g4) k ∨ w8.heap.size ≤ k) → W.ownsRow w.heap.size 5 1 (.slice A7_5 d.length c7_5) d.length (encs (Value.int .u8) d) → Kp w W (fun k => k = g) → Kp w8 W (fun k => k = g ∨ k = g1 ∨ k = g4) → wpAnyH Try.prog .any (regOf Try.f52 7) QQ (fun W => W.heap[g1]? = some (.cells #[Value.pointer (some ⟨g, 0, none⟩)] 107 (0, 0)) ∧ W.heap[g4]? = some (.cells (([Value.int .i64 0, Value.slice none 0 0] ++ b16 (fun _ => 0) ++ [Value.slice none 0 0])).toArray 50 (0, 0)) ∧ W.heap[g10]? = some (.cells #[Value.string (wordF k), Value.slice A1 ((sizesF k).length) c1, Value.int .i64 (behindF k), Value.bool (addrF k), Value.int .i64 (lenF k), Value.int .i64 (zeroF k)] 116 (0, 0)) ∧ True) 0 #[true, true, true, true, true, true, true, true, true] a W := by
    intro A7_5 c7_5 g7_7 u7_5 w30 a hE B_g B_g1 B_g4 B_g10 B_g7_7 B_u7_5 n_g_g7_7 n_g_u7_5 n_g1_g7_7 n_g1_u7_5 n_g10_g4 n_g10_g7_7 n_g10_u7_5 n_g4_g7_7 n_g4_u7_5 n_g7_7_u7_5 z_0_g7_7 z_0_u7_5 z_s9_g7_7 z_s9_u7_5 Nb_q7_5_g Nb_q7_5_g1 Nb_q7_5_g4 Nb_q7_5_g10 Nb_q7_5_g7_7 Nb_q7_5_u7_5 Z_0_q7_5 Z_s9_q7_5 O_q7_5 K_0 K_s9
    refine d_end (by kernel_rfl) (hend _ _ ?_)
    refine wp_seq (c_reg R52_8_l ?_)
    refine q0 p52_8_0 hE (st_fieldAddr Try.underlying107 rfl tS104 rfl rfl) ?_; clear hE a; intro a hE
    refine q0 p52_8_1 hE (st_load1 tA104 rfl ((blk_cell B_g7_7 0).trans rfl)) ?_; clear hE a; intro a hE
    refine p_cons (s_call (xs := [Operand.tmp 33]) (args := [Value.pointer (some ⟨u7_5, 0, none⟩)]) p52_8_2 hE wn_none rfl rfl Try.func66 cl66 (Go.Proofs.Ytgpclehnomkbmaa.Cu.err_c _ u7_5 A7_5 c7_5 0 _ _ B_u7_5) ?_)
    rintro e w31 ⟨rfl, hk⟩
    replace B_g := kp_blk B_g hk (fun h => h)
    replace B_g1 := kp_blk B_g1 hk (fun h => h)
    replace B_g4 := kp_blk B_g4 hk (fun h => h)
    replace B_g10 := kp_blk B_g10 hk (fun h => h)
    replace B_g7_7 := kp_blk B_g7_7 hk (fun h => h)
    replace B_u7_5 := kp_blk B_u7_5 hk (fun h => h)
    replace O_q7_5 := own_keep O_q7_5 hk (fun _ _ h => h)
    replace K_0 := K_0.then_ hk (fun _ h => h.elim)
    replace K_s9 := K_s9.then_ hk (fun _ h => h.elim)
    refine ⟨_, rfl, ?_⟩; clear hE a; intro a hE
    refine q0 p52_8_3 hE (st_assign rfl) ?_; clear hE a; intro a hE
    refine p_nil (x_norm (c_reg R52_9_l ?_))
    refine q0 p52_9_0 hE (st_move rfl) ?_; clear hE a; intro a hE
    rcases Decidable.em (r3 = 0) with hc32 | hc32
    ·
     refine p_cons (s_still (v := Value.bool false) p52_9_1 hE wn_none rfl (st_neq rfl rfl (by rw [decide_eq_true hc32]; rfl)) ?_); clear hE a; intro a hE
     refine p_nil (x_norm ?_)
     refine c_cond (t := false) hE rfl ?_
     refine wp_skip (x_norm (c_reg R52_11_l ?_))
     obtain ⟨hbd9, hld9, hp39', hpl39, hno9⟩ := hnr2 hc32
     rw [hc32] at B_u7_5
     refine q0 p52_11_0 hE (st_loadN (off := 0) (k := 1) (vs := [Value.pointer (some ⟨u7_5, 0, none⟩)]) tA107 tS107 rfl B_g7_7 rfl rfl) ?_; clear hE a; intro a hE
     refine q0 p52_11_1 hE (st_move rfl) ?_; clear hE a; intro a hE
     refine q0 p52_11_2 hE (st_loadN (off := 0) (k := 6) (vs := [Value.string (wordF k), Value.slice A1 ((sizesF k).length) c1, Value.int .i64 (behindF k), Value.bool (addrF k), Value.int .i64 (lenF k), Value.int .i64 (zeroF k)]) tA116 tS116 rfl B_g10 rfl rfl) ?_; clear hE a; intro a hE
     have hlt_g := blk_lt B_g
     have hlt_g1 := blk_lt B_g1
     have hlt_g4 := blk_lt B_g4
     have hlt_g10 := blk_lt B_g10
     have hlt_g7_7 := blk_lt B_g7_7
     have hlt_u7_5 := blk_lt B_u7_5
     have hlt_0 := K_0.kept.1
     refine p_cons (s_call (xs := [Operand.tmp 39, Operand.tmp 40, Operand.tmp 41]) (args := [Value.agg #[Value.pointer (some ⟨u7_5, 0, none⟩)], Value.int .i64 (k : Int), Value.agg #[Value.string (wordF k), Value.slice A1 ((sizesF k).length) c1, Value.int .i64 (behindF k), Value.bool (addrF k), Value.int .i64 (lenF k), Value.int .i64 (zeroF k)]]) p52_11_3 hE wn_none rfl rfl Try.func111 cl111 (body_c u7_5 A7_5 A1 c7_5 c1 d k hk9 hk1 _ (by omega) (own_caps O_q7_5).1 (own_caps O_q7_5).2 hbd9 B_u7_5 (fun W hk => own_told (own_keep O_q7_5 hk (fun k h h2 => by rw [show k = u7_5 from h2] at h; exact Nb_q7_5_u7_5 h))) (fun W' hk => F_1 W' (K_s9.then_ hk (fun k h => by rw [show k = u7_5 from h]; exact Or.inr z_s9_u7_5)))) ?_)
     rintro e w33 ⟨B9, q9, T9, ct9, x, p', r', rfl, hq9, hct9, hFB, hFT, B_u7_5', hpd9, hcl9, hmk9, hk⟩
     replace B_g := kp_blk B_g hk n_g_u7_5
     replace B_g1 := kp_blk B_g1 hk n_g1_u7_5
     replace B_g4 := kp_blk B_g4 hk n_g4_u7_5
     replace B_g10 := kp_blk B_g10 hk n_g10_u7_5
     replace B_g7_7 := kp_blk B_g7_7 hk n_g7_7_u7_5
     replace O_q7_5 := own_keep O_q7_5 hk (fun k hk2 h2 => Nb_q7_5_u7_5 (by rw [show k = u7_5 from h2] at hk2; exact hk2))
     replace K_0 := K_0.then_ hk (fun k h => by rw [show k = u7_5 from h]; exact Or.inr z_0_u7_5)
     replace K_s9 := K_s9.then_ hk (fun k h => by rw [show k = u7_5 from h]; exact Or.inr z_s9_u7_5)
     replace B_u7_5 := B_u7_5'
     have K_s34 := Kp.refl w33 (fun k => k = g ∨ k = g1 ∨ k = g4 ∨ k = g10 ∨ k = g7_7 ∨ k = u7_5)
     refine ⟨_, rfl, ?_⟩; clear hE a; intro a hE
     refine p_cons (s_alloc p52_11_4 hE wn_none rfl tZ50 ?_)
     clear hE a; intro g35 w36 z37 B_g35 hk a hE
     replace B_g35 : w36.heap[g35]? = some (.cells (([Value.int .i64 0, Value.slice none 0 0] ++ b16 (fun _ => 0) ++ [Value.slice none 0 0])).toArray 50 (0, 0)) := B_g35
     have n_g_g35 : g ≠ g35 := ne_new B_g z37
     have n_g1_g35 : g1 ≠ g35 := ne_new B_g1 z37
     have n_g4_g35 : g4 ≠ g35 := ne_new B_g4 z37
     have n_g10_g35 : g10 ≠ g35 := ne_new B_g10 z37
     have n_g7_7_g35 : g7_7 ≠ g35 := ne_new B_g7_7 z37
     have n_u7_5_g35 : u7_5 ≠ g35 := ne_new B_u7_5 z37
     have z_0_g35 := Nat.le_trans K_0.kept.1 z37
     have z_s9_g35 := Nat.le_trans K_s9.kept.1 z37
     have z_s34_g35 := Nat.le_trans K_s34.kept.1 z37
     have Nb_q7_5_g35 : ¬ OB A7_5 g35 := fun h => by have := (own_ob O_q7_5 h).2; omega
     replace B_g := kp_blk B_g hk (fun h => h)
     replace B_g1 := kp_blk B_g1 hk (fun h => h)
     replace B_g4 := kp_blk B_g4 hk (fun h => h)
     replace B_g10 := kp_blk B_g10 hk (fun h => h)
     replace B_g7_7 := kp_blk B_g7_7 hk (fun h => h)
     replace B_u7_5 := kp_blk B_u7_5 hk (fun h => h)
     replace O_q7_5 := own_keep O_q7_5 hk (fun _ _ h => h)
     replace K_0 := K_0.then_ hk (fun _ h => h.elim)
     replace K_s9 := K_s9.then_ hk (fun _ h => h.elim)
     replace K_s34 := K_s34.then_ hk (fun _ h => h.elim)
     clear hk
     refine p_cons (s_store (off := 0) (k := 19) (cs' := (([Value.int .i64 x.1, Value.slice B9 x.2.1.length q9] ++ b16 (adr x) ++ [Value.slice T9 x.2.2.2.length ct9])).toArray) p52_11_5 hE wn_none tS50 rfl rfl rfl rfl B_g35 (Nat.le_of_ble_eq_true rfl) rfl ?_)
     intro w38 B_g35' hk
     replace B_g := kp_blk B_g hk n_g_g35
     replace B_g1 := kp_blk B_g1 hk n_g1_g35
     replace B_g4 := kp_blk B_g4 hk n_g4_g35
     replace B_g10 := kp_blk B_g10 hk n_g10_g35
     replace B_g7_7 := kp_blk B_g7_7 hk n_g7_7_g35
     replace B_u7_5 := kp_blk B_u7_5 hk n_u7_5_g35
     replace O_q7_5 := own_keep O_q7_5 hk (fun k hk2 h2 => Nb_q7_5_g35 (by rw [show k = g35 from h2] at hk2; exact hk2))
     replace K_0 := K_0.then_ hk (fun k h => by rw [show k = g35 from h]; exact Or.inr z_0_g35)
     replace K_s9 := K_s9.then_ hk (fun k h => by rw [show k = g35 from h]; exact Or.inr z_s9_g35)
     replace K_s34 := K_s34.then_ hk (fun k h => by rw [show k = g35 from h]; exact Or.inr z_s34_g35)
     replace B_g35 := B_g35'
     clear hk
     refine p_nil (x_norm (wp_seq (c_reg R52_12_l ?_)))
     refine q0 p52_12_0 hE (st_fieldAddr Try.underlying107 rfl tS104 rfl rfl) ?_; clear hE a; intro a hE
     refine q0 p52_12_1 hE (st_load1 tA104 rfl ((blk_cell B_g7_7 0).trans rfl)) ?_; clear hE a; intro a hE
     refine p_cons (s_call (xs := [Operand.tmp 44]) (args := [Value.pointer (some ⟨u7_5, 0, none⟩)]) p52_12_2 hE wn_none rfl rfl Try.func112 cl112 (Go.Proofs.Ytgpclehnomkbmaa.Cu.close_c _ u7_5 A7_5 c7_5 p' _ _ (by omega) (by omega) B_u7_5) ?_)
     rintro e w39 ⟨rfl, hk⟩
     replace B_g := kp_blk B_g hk (fun h => h)
     replace B_g1 := kp_blk B_g1 hk (fun h => h)
     replace B_g4 := kp_blk B_g4 hk (fun h => h)
     replace B_g10 := kp_blk B_g10 hk (fun h => h)
     replace B_g7_7 := kp_blk B_g7_7 hk (fun h => h)
     replace B_u7_5 := kp_blk B_u7_5 hk (fun h => h)
     replace B_g35 := kp_blk B_g35 hk (fun h => h)
     replace O_q7_5 := own_keep O_q7_5 hk (fun _ _ h => h)
     replace K_0 := K_0.then_ hk (fun _ h => h.elim)
     replace K_s9 := K_s9.then_ hk (fun _ h => h.elim)
     replace K_s34 := K_s34.then_ hk (fun _ h => h.elim)
     refine ⟨_, rfl, ?_⟩; clear hE a; intro a hE
     refine q0 p52_12_3 hE (st_assign rfl) ?_; clear hE a; intro a hE
     refine p_nil (x_norm (c_reg R52_13_l ?_))
     refine q0 p52_13_0 hE (st_move rfl) ?_; clear hE a; intro a hE
     rcases Decidable.em ((Go.Proofs.Ytgpclehnomkbmaa.Cu.clF d.length p' r') = 0) with hc40 | hc40
     ·
      refine p_cons (s_still (v := Value.bool false) p52_13_1 hE wn_none rfl (st_neq rfl rfl (by rw [decide_eq_true hc40]; rfl)) ?_); clear hE a; intro a hE
      refine p_nil (x_norm ?_)
      refine c_cond (t := false) hE rfl ?_
      refine wp_skip (x_norm ?_)
      refine c_drawS (S := fun W => W.heap[g]? = some (.cells #[Value.slice A l.length c, Value.int .i64 (p3 : Int), Value.int .i64 r3] 188 (0, 0)) ∧ W.heap[g1]? = some (.cells #[Value.pointer (some ⟨g, 0, none⟩)] 107 (0, 0)) ∧ W.heap[g10]? = some (.cells #[Value.string (wordF k), Value.slice A1 ((sizesF k).length) c1, Value.int .i64 (behindF k), Value.bool (addrF k), Value.int .i64 (lenF k), Value.int .i64 (zeroF k)] 116 (0, 0)) ∧ W.heap[g7_7]? = some (.cells #[Value.pointer (some ⟨u7_5, 0, none⟩)] 107 (0, 0)) ∧ W.heap[u7_5]? = some (.cells #[Value.slice A7_5 d.length c7_5, Value.int .i64 (p' : Int), Value.int .i64 r'] 188 (0, 0)) ∧ W.heap[g35]? = some (.cells (([Value.int .i64 x.1, Value.slice B9 x.2.1.length q9] ++ b16 (adr x) ++ [Value.slice T9 x.2.2.2.length ct9])).toArray 50 (0, 0)) ∧ True) rfl rfl (listed := #[false, false, false, false, false]) rfl ?_
      intro w41 hh hk
      replace B_g := kp_blk B_g hk (fun h => h)
      replace B_g1 := kp_blk B_g1 hk (fun h => h)
      replace B_g4 := kp_blk B_g4 hk (fun h => h)
      replace B_g10 := kp_blk B_g10 hk (fun h => h)
      replace B_g7_7 := kp_blk B_g7_7 hk (fun h => h)
      replace B_u7_5 := kp_blk B_u7_5 hk (fun h => h)
      replace B_g35 := kp_blk B_g35 hk (fun h => h)
      replace O_q7_5 := own_keep O_q7_5 hk (fun _ _ h => h)
      replace K_0 := K_0.then_ hk (fun _ h => h.elim)
      replace K_s9 := K_s9.then_ hk (fun _ h => h.elim)
      replace K_s34 := K_s34.then_ hk (fun _ h => h.elim)
      clear hh hk
      have hS9 : w41.heap[g]? = some (.cells #[Value.slice A l.length c, Value.int .i64 (p3 : Int), Value.int .i64 r3] 188 (0, 0)) ∧ w41.heap[g1]? = some (.cells #[Value.pointer (some ⟨g, 0, none⟩)] 107 (0, 0)) ∧ w41.heap[g10]? = some (.cells #[Value.string (wordF k), Value.slice A1 ((sizesF k).length) c1, Value.int .i64 (behindF k), Value.bool (addrF k), Value.int .i64 (lenF k), Value.int .i64 (zeroF k)] 116 (0, 0)) ∧ w41.heap[g7_7]? = some (.cells #[Value.pointer (some ⟨u7_5, 0, none⟩)] 107 (0, 0)) ∧ w41.heap[u7_5]? = some (.cells #[Value.slice A7_5 d.length c7_5, Value.int .i64 (p' : Int), Value.int .i64 r'] 188 (0, 0)) ∧ w41.heap[g35]? = some (.cells (([Value.int .i64 x.1, Value.slice B9 x.2.1.length q9] ++ b16 (adr x) ++ [Value.slice T9 x.2.2.2.length ct9])).toArray 50 (0, 0)) ∧ True := ⟨B_g, B_g1, B_g10, B_g7_7, B_u7_5, B_g35, trivial⟩
      refine Rv.dq (v := Value.agg (([Value.int .i64 x.1, Value.slice B9 x.2.1.length q9] ++ b16 (adr x) ++ [Value.slice T9 x.2.2.2.length ct9])).toArray) p52_15_0 ns52_15 hE wn_none hS9 (fun W hS => (st_loadN (off := 0) (k := 19) (vs := ([Value.int .i64 x.1, Value.slice B9 x.2.1.length q9] ++ b16 (adr x) ++ [Value.slice T9 x.2.2.2.length ct9])) tA50 tS50 rfl hS.2.2.2.2.2.1 rfl rfl)) ?_; clear hE a; intro a hE
      refine Rv.dq (v := Value.agg (([Value.int .i64 x.1, Value.slice B9 x.2.1.length q9] ++ b16 (adr x) ++ [Value.slice T9 x.2.2.2.length ct9])).toArray) p52_15_1 ns52_15 hE wn_none hS9 (fun W hS => (st_loadN (off := 0) (k := 19) (vs := ([Value.int .i64 x.1, Value.slice B9 x.2.1.length q9] ++ b16 (adr x) ++ [Value.slice T9 x.2.2.2.length ct9])) tA50 tS50 rfl hS.2.2.2.2.2.1 rfl rfl)) ?_; clear hE a; intro a hE
      refine d_one (by kernel_rfl) rfl (s_call (xs := [Operand.tmp 51]) (args := [Value.agg (([Value.int .i64 x.1, Value.slice B9 x.2.1.length q9] ++ b16 (adr x) ++ [Value.slice T9 x.2.2.2.length ct9])).toArray]) p52_15_2 hE wn_none rfl rfl Try.func22 cl22 (check_any x.1 B9 T9 x.2.1.length q9 x.2.2.2.length ct9 x.2.1 (adr x) _ (fun W' hk => hFB W' ((K_s34.mono (fun k h => by have h : k = g ∨ k = g1 ∨ k = g4 ∨ k = g10 ∨ k = g7_7 ∨ k = u7_5 := h; omega)).then_ hk (fun k h => h.elim)))) ?_)
      rintro e w42 ⟨rfl, hk⟩
      replace B_g := kp_blk B_g hk (fun h => h)
      replace B_g1 := kp_blk B_g1 hk (fun h => h)
      replace B_g4 := kp_blk B_g4 hk (fun h => h)
      replace B_g10 := kp_blk B_g10 hk (fun h => h)
      replace B_g7_7 := kp_blk B_g7_7 hk (fun h => h)
      replace B_u7_5 := kp_blk B_u7_5 hk (fun h => h)
      replace B_g35 := kp_blk B_g35 hk (fun h => h)
      replace O_q7_5 := own_keep O_q7_5 hk (fun _ _ h => h)
      replace K_0 := K_0.then_ hk (fun _ h => h.elim)
      replace K_s9 := K_s9.then_ hk (fun _ h => h.elim)
      replace K_s34 := K_s34.then_ hk (fun _ h => h.elim)
      refine ⟨_, rfl, ?_⟩; clear hE a; intro a hE
      refine ⟨⟨B_g, B_g1, B_g10, B_g7_7, B_u7_5, B_g35, trivial⟩, ?_⟩
      refine d_one (by kernel_rfl) rfl (s_store (off := 0) (k := 19) (cs' := (([Value.int .i64 x.1, Value.slice B9 x.2.1.length q9] ++ b16 (adr x) ++ [Value.slice T9 x.2.2.2.length ct9])).toArray) p52_15_3 hE wn_none tS50 rfl rfl rfl rfl B_g4 (Nat.le_of_ble_eq_true rfl) rfl ?_)
      intro w43 B_g4' hk
      replace B_g := kp_blk B_g hk n_g_g4
      replace B_g1 := kp_blk B_g1 hk n_g1_g4
      replace B_g10 := kp_blk B_g10 hk n_g10_g4
      replace B_g7_7 := kp_blk B_g7_7 hk (Ne.symm n_g4_g7_7)
      replace B_u7_5 := kp_blk B_u7_5 hk (Ne.symm n_g4_u7_5)
      replace B_g35 := kp_blk B_g35 hk (Ne.symm n_g4_g35)
      replace O_q7_5 := own_keep O_q7_5 hk (fun k hk2 h2 => Nb_q7_5_g4 (by rw [show k = g4 from h2] at hk2; exact hk2))
      replace K_0 := K_0.then_ hk (fun k h => by rw [show k = g4 from h]; exact Or.inr z_0_g4)
      replace K_s9 := K_s9.then_ hk (fun k h => by rw [show k = g4 from h]; exact Or.inl (Or.inr (Or.inr rfl)))
      replace K_s34 := K_s34.then_ hk (fun k h => by rw [show k = g4 from h]; exact Or.inl (Or.inr (Or.inr (Or.inl rfl))))
      replace B_g4 := B_g4'
      clear hk
      refine ⟨⟨B_g, B_g1, B_g10, B_g7_7, B_u7_5, B_g35, trivial⟩, ?_⟩
      have hS9 : w43.heap[g]? = some (.cells #[Value.slice A l.length c, Value.int .i64 (p3 : Int), Value.int .i64 r3] 188 (0, 0)) ∧ w43.heap[g1]? = some (.cells #[Value.pointer (some ⟨g, 0, none⟩)] 107 (0, 0)) ∧ w43.heap[g10]? = some (.cells #[Value.string (wordF k), Value.slice A1 ((sizesF k).length) c1, Value.int .i64 (behindF k), Value.bool (addrF k), Value.int .i64 (lenF k), Value.int .i64 (zeroF k)] 116 (0, 0)) ∧ w43.heap[g7_7]? = some (.cells #[Value.pointer (some ⟨u7_5, 0, none⟩)] 107 (0, 0)) ∧ w43.heap[u7_5]? = some (.cells #[Value.slice A7_5 d.length c7_5, Value.int .i64 (p' : Int), Value.int .i64 r'] 188 (0, 0)) ∧ w43.heap[g35]? = some (.cells (([Value.int .i64 x.1, Value.slice B9 x.2.1.length q9] ++ b16 (adr x) ++ [Value.slice T9 x.2.2.2.length ct9])).toArray 50 (0, 0)) ∧ True := ⟨B_g, B_g1, B_g10, B_g7_7, B_u7_5, B_g35, trivial⟩
      refine Rv.dq (v := Value.int .i64 (chkV x)) p52_15_4 ns52_15 hE wn_none hS9 (fun W hS => (st_assign rfl)) ?_; clear hE a; intro a hE
      refine d_end (by kernel_rfl) ?_
      refine x_norm (wp_ret ?_)
      refine ret_list (rs := [.cell 2 50, .tmp 3]) (vs := [Value.agg (([Value.int .i64 x.1, Value.slice B9 x.2.1.length q9] ++ b16 (adr x) ++ [Value.slice T9 x.2.2.2.length ct9])).toArray, Value.int .i64 (chkV x)]) rfl hE (.cellN (us := ([Value.int .i64 x.1, Value.slice B9 x.2.1.length q9] ++ b16 (adr x) ++ [Value.slice T9 x.2.2.2.length ct9])) tA50 tS50 rfl B_g4 rfl (.tmp rfl .nil)) rfl ?_
      have hok9 : okD k d = true := by
       cases h : okD k d with
       | true => rfl
       | false => rw [h] at hcl9; exact absurd (hcl9.symm.trans hc40) (by decide)
      have hx9 := hmk9 hok9
      rw [if_neg (by rw [hok9]; decide), ← hx9] at hno9
      exact ⟨_, _, _, _, x, p3, r3, by rw [hno9], hq9, hct9, fun W' hk => hFB W' ((K_s34.mono (fun k h => by have h : k = g ∨ k = g1 ∨ k = g4 ∨ k = g10 ∨ k = g7_7 ∨ k = u7_5 := h; omega)).then_ hk (fun k h => .inl (by have h : k < w.heap.size := h; omega))), fun W' hk => hFT W' ((K_s34.mono (fun k h => by have h : k = g ∨ k = g1 ∨ k = g4 ∨ k = g10 ∨ k = g7_7 ∨ k = u7_5 := h; omega)).then_ hk (fun k h => .inl (by have h : k < w.heap.size := h; omega))), B_g, fun _ => by rw [hno9]; exact ⟨rfl, hp39', hc32⟩, K_0⟩
     ·
      refine p_cons (s_still (v := Value.bool true) p52_13_1 hE wn_none rfl (st_neq rfl rfl (by rw [decide_eq_false hc40]; rfl)) ?_); clear hE a; intro a hE
      refine p_nil (x_norm ?_)
      refine c_cond (t := true) hE rfl ?_
      refine c_reg R52_14_l ?_
      refine q0 p52_14_0 hE (st_build (xs := []) (vs := []) (cs := (([Value.int .i64 0, Value.slice none 0 0] ++ b16 (fun _ => 0) ++ [Value.slice none 0 0])).toArray) rfl (by kernel_rfl)) ?_; clear hE a; intro a hE
      refine q0 p52_14_1 hE (st_move rfl) ?_; clear hE a; intro a hE
      refine p_cons (s_store (off := 0) (k := 19) (cs' := (([Value.int .i64 0, Value.slice none 0 0] ++ b16 (fun _ => 0) ++ [Value.slice none 0 0])).toArray) p52_14_2 hE wn_none tS50 rfl rfl rfl rfl B_g4 (Nat.le_of_ble_eq_true rfl) rfl ?_)
      intro w44 B_g4' hk
      replace B_g := kp_blk B_g hk n_g_g4
      replace B_g1 := kp_blk B_g1 hk n_g1_g4
      replace B_g10 := kp_blk B_g10 hk n_g10_g4
      replace B_g7_7 := kp_blk B_g7_7 hk (Ne.symm n_g4_g7_7)
      replace B_u7_5 := kp_blk B_u7_5 hk (Ne.symm n_g4_u7_5)
      replace B_g35 := kp_blk B_g35 hk (Ne.symm n_g4_g35)
      replace O_q7_5 := own_keep O_q7_5 hk (fun k hk2 h2 => Nb_q7_5_g4 (by rw [show k = g4 from h2] at hk2; exact hk2))
      replace K_0 := K_0.then_ hk (fun k h => by rw [show k = g4 from h]; exact Or.inr z_0_g4)
      replace K_s9 := K_s9.then_ hk (fun k h => by rw [show k = g4 from h]; exact Or.inl (Or.inr (Or.inr rfl)))
      replace K_s34 := K_s34.then_ hk (fun k h => by rw [show k = g4 from h]; exact Or.inl (Or.inr (Or.inr (Or.inl rfl))))
      replace B_g4 := B_g4'
      clear hk
      refine q0 p52_14_3 hE (st_assign rfl) ?_; clear hE a; intro a hE
      refine p_nil (x_norm (wp_ret (x_ret ?_)))
      refine ret_list (rs := [.cell 2 50, .tmp 3]) (vs := [Value.agg (([Value.int .i64 0, Value.slice none 0 0] ++ b16 (fun _ => 0) ++ [Value.slice none 0 0])).toArray, Value.int .i64 (Go.Proofs.Ytgpclehnomkbmaa.Cu.clF d.length p' r')]) rfl hE (.cellN (us := ([Value.int .i64 0, Value.slice none 0 0] ++ b16 (fun _ => 0) ++ [Value.slice none 0 0])) tA50 tS50 rfl B_g4 rfl (.tmp rfl .nil)) rfl ?_
      have hok9 : okD k d = false := by
       cases h : okD k d with
       | false => rfl
       | true => rw [h, if_pos rfl] at hcl9; exact absurd hcl9 hc40
      rw [hok9] at hcl9
      replace hcl9 : clF d.length p' r' = 3 := hcl9
      have hne9 : (nextO (l.drop p)).1 = (Go.Proofs.Ytgpclehnomkbmaa.Cu.clF d.length p' r') := by rw [hno9, if_pos hok9, hcl9]
      exact ⟨none, 0, none, 0, (0, [], l16 (fun _ => 0), []), p3, r3, by rw [hne9]; rfl, Nat.le_refl _, Nat.le_refl _, fun W' hk => Kd.C_nil _ _, fun W' hk => Kd.C_nil _ _, B_g, fun h => absurd (hne9.symm.trans h) hc40, K_0⟩
    ·
     refine p_cons (s_still (v := Value.bool true) p52_9_1 hE wn_none rfl (st_neq rfl rfl (by rw [decide_eq_false hc32]; rfl)) ?_); clear hE a; intro a hE
     refine p_nil (x_norm ?_)
     refine c_cond (t := true) hE rfl ?_
     refine c_reg R52_10_l ?_
     refine q0 p52_10_0 hE (st_build (xs := []) (vs := []) (cs := (([Value.int .i64 0, Value.slice none 0 0] ++ b16 (fun _ => 0) ++ [Value.slice none 0 0])).toArray) rfl (by kernel_rfl)) ?_; clear hE a; intro a hE
     refine q0 p52_10_1 hE (st_move rfl) ?_; clear hE a; intro a hE
     refine p_cons (s_store (off := 0) (k := 19) (cs' := (([Value.int .i64 0, Value.slice none 0 0] ++ b16 (fun _ => 0) ++ [Value.slice none 0 0])).toArray) p52_10_2 hE wn_none tS50 rfl rfl rfl rfl B_g4 (Nat.le_of_ble_eq_true rfl) rfl ?_)
     intro w45 B_g4' hk
     replace B_g := kp_blk B_g hk n_g_g4
     replace B_g1 := kp_blk B_g1 hk n_g1_g4
     replace B_g10 := kp_blk B_g10 hk n_g10_g4
     replace B_g7_7 := kp_blk B_g7_7 hk (Ne.symm n_g4_g7_7)
     replace B_u7_5 := kp_blk B_u7_5 hk (Ne.symm n_g4_u7_5)
     replace O_q7_5 := own_keep O_q7_5 hk (fun k hk2 h2 => Nb_q7_5_g4 (by rw [show k = g4 from h2] at hk2; exact hk2))
     replace K_0 := K_0.then_ hk (fun k h => by rw [show k = g4 from h]; exact Or.inr z_0_g4)
     replace K_s9 := K_s9.then_ hk (fun k h => by rw [show k = g4 from h]; exact Or.inl (Or.inr (Or.inr rfl)))
     replace B_g4 := B_g4'
     clear hk
     refine q0 p52_10_3 hE (st_assign rfl) ?_; clear hE a; intro a hE
     refine p_nil (x_norm (wp_ret (x_ret ?_)))
     refine ret_list (rs := [.cell 2 50, .tmp 3]) (vs := [Value.agg (([Value.int .i64 0, Value.slice none 0 0] ++ b16 (fun _ => 0) ++ [Value.slice none 0 0])).toArray, Value.int .i64 r3]) rfl hE (.cellN (us := ([Value.int .i64 0, Value.slice none 0 0] ++ b16 (fun _ => 0) ++ [Value.slice none 0 0])) tA50 tS50 rfl B_g4 rfl (.tmp rfl .nil)) rfl ?_
     have hne9 : (nextO (l.drop p)).1 = r3 := hnr1 hc32
     exact ⟨none, 0, none, 0, (0, [], l16 (fun _ => 0), []), p3, r3, by rw [hne9]; rfl, Nat.le_refl _, Nat.le_refl _, fun W' hk => Kd.C_nil _ _, fun W' hk => Kd.C_nil _ _, B_g, fun h => absurd (hne9.symm.trans h) hc32, K_0⟩
   have dr7_5 : ∀ (A7_5 : Option Addr) (c7_5 : Nat) (g7_7 : Nat) (u7_5 : Nat) (W : World) (a : Act), En 53 a [(0, Value.agg #[Value.pointer (some ⟨g, 0, none⟩)]), (1, Value.pointer (some ⟨g1, 0, none⟩)), (2, Value.pointer (some ⟨g4, 0, none⟩)), (3, Value.int .i64 0), (4, Value.int .i64 (k : Int)), (5, Value.pointer (some ⟨g10, 0, none⟩)), (6, Value.bool true), (7, Value.pointer (some ⟨g7_7, 0, none⟩)), (20, Value.bool false), (23, Value.bool false), (25, Value.pointer (some ⟨g1, 0, none⟩)), (26, Value.pointer (some ⟨g, 0, none⟩)), (27, Value.pointer (some ⟨g1, 0, none⟩)), (28, Value.pointer (some ⟨g, 0, none⟩)), (29, Value.int .i64 v), (30, Value.pointer (some ⟨u7_5, 0, none⟩)), (31, Value.agg #[Value.pointer (some ⟨u7_5, 0, none⟩)])] → W.heap[g]? = some (.cells #[Value.slice A l.length c, Value.int .i64 (p3 : Int), Value.int .i64 r3] 188 (0, 0)) → W.heap[g1]? = some (.cells #[Value.pointer (some ⟨g, 0, none⟩)] 107 (0, 0)) → W.heap[g4]? = some (.cells (([Value.int .i64 0, Value.slice none 0 0] ++ b16 (fun _ => 0) ++ [Value.slice none 0 0])).toArray 50 (0, 0)) → W.heap[g10]? = some (.cells #[Value.string (wordF k), Value.slice A1 ((sizesF k).length) c1, Value.int .i64 (behindF k), Value.bool (addrF k), Value.int .i64 (lenF k), Value.int .i64 (zeroF k)] 116 (0, 0)) → W.heap[g7_7]? = some (.cells #[Value.pointer none] 107 (0, 0)) → W.heap[u7_5]? = some (.cells #[Value.slice A7_5 d.length c7_5, Value.int .i64 0, Value.int .i64 r3] 188 (0, 0)) → g ≠ g7_7 → g ≠ u7_5 → g1 ≠ g7_7 → g1 ≠ u7_5 → g10 ≠ g4 → g10 ≠ g7_7 → g10 ≠ u7_5 → g4 ≠ g7_7 → g4 ≠ u7_5 → g7_7 ≠ u7_5 → w.heap.size ≤ g7_7 → w.heap.size ≤ u7_5 → w8.heap.size ≤ g7_7 → w8.heap.size ≤ u7_5 → ¬ OB A7_5 g → ¬ OB A7_5 g1 → ¬ OB A7_5 g4 → ¬ OB A7_5 g10 → ¬ OB A7_5 g7_7 → ¬ OB A7_5 u7_5 → (∀ k, OB A7_5 k → (fun k => k = g) k ∨ w.heap.size ≤ k) → (∀ k, OB A7_5 k → (fun k => k = g ∨ k = g1 ∨ k = g4) k ∨ w8.heap.size ≤ k) → W.ownsRow w.heap.size 5 1 (.slice A7_5 d.length c7_5) d.length (encs (Value.int .u8) d) → Kp w W (fun k => k = g) → Kp w8 W (fun k => k = g ∨ k = g1 ∨ k = g4) → wpAnyH Try.prog .any (regOf Try.f52 7) QQ (fun W => W.heap[g1]? = some (.cells #[Value.pointer (some ⟨g, 0, none⟩)] 107 (0, 0)) ∧ W.heap[g4]? = some (.cells (([Value.int .i64 0, Value.slice none 0 0] ++ b16 (fun _ => 0) ++ [Value.slice none 0 0])).toArray 50 (0, 0)) ∧ W.heap[g10]? = some (.cells #[Value.string (wordF k), Value.slice A1 ((sizesF k).length) c1, Value.int .i64 (behindF k), Value.bool (addrF k), Value.int .i64 (lenF k), Value.int .i64 (zeroF k)] 116 (0, 0)) ∧ True) 1 #[true, true, true, true, true, true, true, true, false] a W := by
    intro A7_5 c7_5 g7_7 u7_5 w46 a hE B_g B_g1 B_g4 B_g10 B_g7_7 B_u7_5 n_g_g7_7 n_g_u7_5 n_g1_g7_7 n_g1_u7_5 n_g10_g4 n_g10_g7_7 n_g10_u7_5 n_g4_g7_7 n_g4_u7_5 n_g7_7_u7_5 z_0_g7_7 z_0_u7_5 z_s9_g7_7 z_s9_u7_5 Nb_q7_5_g Nb_q7_5_g1 Nb_q7_5_g4 Nb_q7_5_g10 Nb_q7_5_g7_7 Nb_q7_5_u7_5 Z_0_q7_5 Z_s9_q7_5 O_q7_5 K_0 K_s9
    refine d_all (rs := [8]) (by kernel_rfl) rfl ?_
    refine all_cons (d_lit (listed' := #[true, true, true, true, true, true, true, true, true]) rfl ?_) ?_
    ·
     refine (s_store (off := 0) (k := 1) (cs' := #[Value.pointer (some ⟨u7_5, 0, none⟩)]) p52_7_8 hE wn_none tS107 rfl rfl rfl rfl B_g7_7 (Nat.le_of_ble_eq_true rfl) rfl ?_)
     intro w47 B_g7_7' hk
     replace B_g := kp_blk B_g hk n_g_g7_7
     replace B_g1 := kp_blk B_g1 hk n_g1_g7_7
     replace B_g4 := kp_blk B_g4 hk n_g4_g7_7
     replace B_g10 := kp_blk B_g10 hk n_g10_g7_7
     replace B_u7_5 := kp_blk B_u7_5 hk (Ne.symm n_g7_7_u7_5)
     replace O_q7_5 := own_keep O_q7_5 hk (fun k hk2 h2 => Nb_q7_5_g7_7 (by rw [show k = g7_7 from h2] at hk2; exact hk2))
     replace K_0 := K_0.then_ hk (fun k h => by rw [show k = g7_7 from h]; exact Or.inr z_0_g7_7)
     replace K_s9 := K_s9.then_ hk (fun k h => by rw [show k = g7_7 from h]; exact Or.inr z_s9_g7_7)
     replace B_g7_7 := B_g7_7'
     clear hk
     refine ⟨⟨B_g1, B_g4, B_g10, trivial⟩, ?_⟩
     exact dr7_6 A7_5 c7_5 g7_7 u7_5 _ a (En.sub hE ⟨rfl, rfl, rfl, rfl, rfl, rfl, rfl, rfl, rfl, rfl, rfl, rfl, rfl, rfl, rfl, rfl, rfl, trivial⟩) B_g B_g1 B_g4 B_g10 B_g7_7 B_u7_5 n_g_g7_7 n_g_u7_5 n_g1_g7_7 n_g1_u7_5 n_g10_g4 n_g10_g7_7 n_g10_u7_5 n_g4_g7_7 n_g4_u7_5 n_g7_7_u7_5 z_0_g7_7 z_0_u7_5 z_s9_g7_7 z_s9_u7_5 Nb_q7_5_g Nb_q7_5_g1 Nb_q7_5_g4 Nb_q7_5_g10 Nb_q7_5_g7_7 Nb_q7_5_u7_5 Z_0_q7_5 Z_s9_q7_5 O_q7_5 K_0 K_s9
    exact all_nil
   have dr7_4 : ∀ (A7_5 : Option Addr) (c7_5 : Nat) (u7_5 : Nat) (W : World) (a : Act), En 53 a [(0, Value.agg #[Value.pointer (some ⟨g, 0, none⟩)]), (1, Value.pointer (some ⟨g1, 0, none⟩)), (2, Value.pointer (some ⟨g4, 0, none⟩)), (3, Value.int .i64 0), (4, Value.int .i64 (k : Int)), (5, Value.pointer (some ⟨g10, 0, none⟩)), (6, Value.bool true), (20, Value.bool false), (23, Value.bool false), (25, Value.pointer (some ⟨g1, 0, none⟩)), (26, Value.pointer (some ⟨g, 0, none⟩)), (27, Value.pointer (some ⟨g1, 0, none⟩)), (28, Value.pointer (some ⟨g, 0, none⟩)), (29, Value.int .i64 v), (30, Value.pointer (some ⟨u7_5, 0, none⟩)), (31, Value.agg #[Value.pointer (some ⟨u7_5, 0, none⟩)])] → W.heap[g]? = some (.cells #[Value.slice A l.length c, Value.int .i64 (p3 : Int), Value.int .i64 r3] 188 (0, 0)) → W.heap[g1]? = some (.cells #[Value.pointer (some ⟨g, 0, none⟩)] 107 (0, 0)) → W.heap[g4]? = some (.cells (([Value.int .i64 0, Value.slice none 0 0] ++ b16 (fun _ => 0) ++ [Value.slice none 0 0])).toArray 50 (0, 0)) → W.heap[g10]? = some (.cells #[Value.string (wordF k), Value.slice A1 ((sizesF k).length) c1, Value.int .i64 (behindF k), Value.bool (addrF k), Value.int .i64 (lenF k), Value.int .i64 (zeroF k)] 116 (0, 0)) → W.heap[u7_5]? = some (.cells #[Value.slice A7_5 d.length c7_5, Value.int .i64 0, Value.int .i64 r3] 188 (0, 0)) → g ≠ u7_5 → g1 ≠ u7_5 → g10 ≠ g4 → g10 ≠ u7_5 → g4 ≠ u7_5 → w.heap.size ≤ u7_5 → w8.heap.size ≤ u7_5 → ¬ OB A7_5 g → ¬ OB A7_5 g1 → ¬ OB A7_5 g4 → ¬ OB A7_5 g10 → ¬ OB A7_5 u7_5 → (∀ k, OB A7_5 k → (fun k => k = g) k ∨ w.heap.size ≤ k) → (∀ k, OB A7_5 k → (fun k => k = g ∨ k = g1 ∨ k = g4) k ∨ w8.heap.size ≤ k) → W.ownsRow w.heap.size 5 1 (.slice A7_5 d.length c7_5) d.length (encs (Value.int .u8) d) → Kp w W (fun k => k = g) → Kp w8 W (fun k => k = g ∨ k = g1 ∨ k = g4) → wpAnyH Try.prog .any (regOf Try.f52 7) QQ (fun W => W.heap[g1]? = some (.cells #[Value.pointer (some ⟨g, 0, none⟩)] 107 (0, 0)) ∧ W.heap[g4]? = some (.cells (([Value.int .i64 0, Value.slice none 0 0] ++ b16 (fun _ => 0) ++ [Value.slice none 0 0])).toArray 50 (0, 0)) ∧ W.heap[g10]? = some (.cells #[Value.string (wordF k), Value.slice A1 ((sizesF k).length) c1, Value.int .i64 (behindF k), Value.bool (addrF k), Value.int .i64 (lenF k), Value.int .i64 (zeroF k)] 116 (0, 0)) ∧ True) 2 #[true, true, true, true, true, true, true, false, false] a W := by
    intro A7_5 c7_5 u7_5 w48 a hE B_g B_g1 B_g4 B_g10 B_u7_5 n_g_u7_5 n_g1_u7_5 n_g10_g4 n_g10_u7_5 n_g4_u7_5 z_0_u7_5 z_s9_u7_5 Nb_q7_5_g Nb_q7_5_g1 Nb_q7_5_g4 Nb_q7_5_g10 Nb_q7_5_u7_5 Z_0_q7_5 Z_s9_q7_5 O_q7_5 K_0 K_s9
    refine d_all (rs := [7]) (by kernel_rfl) rfl ?_
    refine all_cons (d_lit (listed' := #[true, true, true, true, true, true, true, true, false]) rfl ?_) ?_
    ·
     refine (s_alloc p52_7_7 hE wn_none rfl tZ107 ?_)
     clear hE a; intro g7_7 w49 z50 B_g7_7 hk a hE
     replace B_g7_7 : w49.heap[g7_7]? = some (.cells #[Value.pointer none] 107 (0, 0)) := B_g7_7
     have n_g_g7_7 : g ≠ g7_7 := ne_new B_g z50
     have n_g1_g7_7 : g1 ≠ g7_7 := ne_new B_g1 z50
     have n_g4_g7_7 : g4 ≠ g7_7 := ne_new B_g4 z50
     have n_g10_g7_7 : g10 ≠ g7_7 := ne_new B_g10 z50
     have n_u7_5_g7_7 : u7_5 ≠ g7_7 := ne_new B_u7_5 z50
     have z_0_g7_7 := Nat.le_trans K_0.kept.1 z50
     have z_s9_g7_7 := Nat.le_trans K_s9.kept.1 z50
     have Nb_q7_5_g7_7 : ¬ OB A7_5 g7_7 := fun h => by have := (own_ob O_q7_5 h).2; omega
     replace B_g := kp_blk B_g hk (fun h => h)
     replace B_g1 := kp_blk B_g1 hk (fun h => h)
     replace B_g4 := kp_blk B_g4 hk (fun h => h)
     replace B_g10 := kp_blk B_g10 hk (fun h => h)
     replace B_u7_5 := kp_blk B_u7_5 hk (fun h => h)
     replace O_q7_5 := own_keep O_q7_5 hk (fun _ _ h => h)
     replace K_0 := K_0.then_ hk (fun _ h => h.elim)
     replace K_s9 := K_s9.then_ hk (fun _ h => h.elim)
     clear hk
     refine ⟨⟨B_g1, B_g4, B_g10, trivial⟩, ?_⟩
     have n_g7_7_u7_5 := Ne.symm n_u7_5_g7_7
     exact dr7_5 A7_5 c7_5 g7_7 u7_5 _ a (En.sub hE ⟨rfl, rfl, rfl, rfl, rfl, rfl, rfl, rfl, rfl, rfl, rfl, rfl, rfl, rfl, rfl, rfl, rfl, trivial⟩) B_g B_g1 B_g4 B_g10 B_g7_7 B_u7_5 n_g_g7_7 n_g_u7_5 n_g1_g7_7 n_g1_u7_5 n_g10_g4 n_g10_g7_7 n_g10_u7_5 n_g4_g7_7 n_g4_u7_5 n_g7_7_u7_5 z_0_g7_7 z_0_u7_5 z_s9_g7_7 z_s9_u7_5 Nb_q7_5_g Nb_q7_5_g1 Nb_q7_5_g4 Nb_q7_5_g10 Nb_q7_5_g7_7 Nb_q7_5_u7_5 Z_0_q7_5 Z_s9_q7_5 O_q7_5 K_0 K_s9
    exact all_nil
   have dr7_3 : ∀ (g7_7 : Nat) (W : World) (a : Act), En 53 a [(0, Value.agg #[Value.pointer (some ⟨g, 0, none⟩)]), (1, Value.pointer (some ⟨g1, 0, none⟩)), (2, Value.pointer (some ⟨g4, 0, none⟩)), (3, Value.int .i64 0), (4, Value.int .i64 (k : Int)), (5, Value.pointer (some ⟨g10, 0, none⟩)), (6, Value.bool true), (7, Value.pointer (some ⟨g7_7, 0, none⟩)), (20, Value.bool false), (23, Value.bool false), (25, Value.pointer (some ⟨g1, 0, none⟩)), (26, Value.pointer (some ⟨g, 0, none⟩)), (27, Value.pointer (some ⟨g1, 0, none⟩)), (28, Value.pointer (some ⟨g, 0, none⟩)), (29, Value.int .i64 v)] → W.heap[g]? = some (.cells #[Value.slice A l.length c, Value.int .i64 (p2 : Int), Value.int .i64 r2] 188 (0, 0)) → W.heap[g1]? = some (.cells #[Value.pointer (some ⟨g, 0, none⟩)] 107 (0, 0)) → W.heap[g4]? = some (.cells (([Value.int .i64 0, Value.slice none 0 0] ++ b16 (fun _ => 0) ++ [Value.slice none 0 0])).toArray 50 (0, 0)) → W.heap[g10]? = some (.cells #[Value.string (wordF k), Value.slice A1 ((sizesF k).length) c1, Value.int .i64 (behindF k), Value.bool (addrF k), Value.int .i64 (lenF k), Value.int .i64 (zeroF k)] 116 (0, 0)) → W.heap[g7_7]? = some (.cells #[Value.pointer none] 107 (0, 0)) → g ≠ g7_7 → g1 ≠ g7_7 → g10 ≠ g4 → g10 ≠ g7_7 → g4 ≠ g7_7 → w.heap.size ≤ g7_7 → w8.heap.size ≤ g7_7 → Kp w W (fun k => k = g) → Kp w8 W (fun k => k = g ∨ k = g1 ∨ k = g4) → wpAnyH Try.prog .any (regOf Try.f52 7) QQ (fun W => W.heap[g1]? = some (.cells #[Value.pointer (some ⟨g, 0, none⟩)] 107 (0, 0)) ∧ W.heap[g4]? = some (.cells (([Value.int .i64 0, Value.slice none 0 0] ++ b16 (fun _ => 0) ++ [Value.slice none 0 0])).toArray 50 (0, 0)) ∧ W.heap[g10]? = some (.cells #[Value.string (wordF k), Value.slice A1 ((sizesF k).length) c1, Value.int .i64 (behindF k), Value.bool (addrF k), Value.int .i64 (lenF k), Value.int .i64 (zeroF k)] 116 (0, 0)) ∧ True) 3 #[true, true, true, true, true, false, false, true, false] a W := by
    intro g7_7 w51 a hE B_g B_g1 B_g4 B_g10 B_g7_7 n_g_g7_7 n_g1_g7_7 n_g10_g4 n_g10_g7_7 n_g4_g7_7 z_0_g7_7 z_s9_g7_7 K_0 K_s9
    refine d_all (rs := [5]) (by kernel_rfl) rfl ?_
    refine all_cons (d_lit (listed' := #[true, true, true, true, true, true, false, true, false]) rfl ?_) ?_
    ·
     have hnb_g := blk_lt B_g
     have hnb_g1 := blk_lt B_g1
     have hnb_g4 := blk_lt B_g4
     have hnb_g10 := blk_lt B_g10
     have hnb_g7_7 := blk_lt B_g7_7
     have hnz_0 := K_0.kept.1
     have hnz_s9 := K_s9.kept.1
     refine (s_call (xs := [Operand.tmp 26, Operand.tmp 29]) (args := [Value.pointer (some ⟨g, 0, none⟩), Value.int .i64 v]) p52_7_5 hE wn_none rfl rfl Try.func110 cl110 (Go.Proofs.Ytgpclehnomkbmaa.Cu.within_e g A c l p2 n r2 v hvn9 p3 r3 hp39 hr39 _ (by omega) (by omega) (by omega) (by omega) d hd9 (by omega) B_g (fun W hk => F_A W (K_0.then_ hk (fun k h => by rw [show k = g from h]; exact Or.inl rfl)))) ?_)
     rintro e w53 ⟨u7_5, A7_5, c7_5, rfl, z52, O_q7_5, B_u7_5, hN9, _, B_g', hk⟩
     have n_g_u7_5 : g ≠ u7_5 := ne_new B_g z52
     have n_g1_u7_5 : g1 ≠ u7_5 := ne_new B_g1 z52
     have n_g4_u7_5 : g4 ≠ u7_5 := ne_new B_g4 z52
     have n_g10_u7_5 : g10 ≠ u7_5 := ne_new B_g10 z52
     have n_g7_7_u7_5 : g7_7 ≠ u7_5 := ne_new B_g7_7 z52
     have z_0_u7_5 := Nat.le_trans K_0.kept.1 z52
     have z_s9_u7_5 := Nat.le_trans K_s9.kept.1 z52
     replace B_g1 := kp_blk B_g1 hk (Ne.symm n_g_g1)
     replace B_g4 := kp_blk B_g4 hk (Ne.symm n_g_g4)
     replace B_g10 := kp_blk B_g10 hk (Ne.symm n_g_g10)
     replace B_g7_7 := kp_blk B_g7_7 hk (Ne.symm n_g_g7_7)
     replace K_0 := K_0.then_ hk (fun k h => by rw [show k = g from h]; exact Or.inl rfl)
     replace K_s9 := K_s9.then_ hk (fun k h => by rw [show k = g from h]; exact Or.inl (Or.inl rfl))
     replace B_g := B_g'
     have Nb_q7_5_g : ¬ OB A7_5 g := fun h => by have := (own_ob O_q7_5 h).1; have := hnb_g; omega
     have Nb_q7_5_g1 : ¬ OB A7_5 g1 := fun h => by have := (own_ob O_q7_5 h).1; have := hnb_g1; omega
     have Nb_q7_5_g4 : ¬ OB A7_5 g4 := fun h => by have := (own_ob O_q7_5 h).1; have := hnb_g4; omega
     have Nb_q7_5_g10 : ¬ OB A7_5 g10 := fun h => by have := (own_ob O_q7_5 h).1; have := hnb_g10; omega
     have Nb_q7_5_g7_7 : ¬ OB A7_5 g7_7 := fun h => by have := (own_ob O_q7_5 h).1; have := hnb_g7_7; omega
     have Z_0_q7_5 : ∀ k, OB A7_5 k → (fun k => k = g) k ∨ w.heap.size ≤ k := fun k h => .inr (by have := (own_ob O_q7_5 h).1; have := hnz_0; omega)
     have Z_s9_q7_5 : ∀ k, OB A7_5 k → (fun k => k = g ∨ k = g1 ∨ k = g4) k ∨ w8.heap.size ≤ k := fun k h => .inr (by have := (own_ob O_q7_5 h).1; have := hnz_s9; omega)
     replace O_q7_5 := own_lower O_q7_5 hnz_0
     have Nb_q7_5_u7_5 := hN9
     refine ⟨_, rfl, ?_⟩; clear hE a; intro a hE
     refine ⟨⟨B_g1, B_g4, B_g10, trivial⟩, ?_⟩
     refine Rv.dq (listed' := #[true, true, true, true, true, true, true, true, false]) (v := Value.agg #[Value.pointer (some ⟨u7_5, 0, none⟩)]) p52_7_6 ns52_7 hE wn_none ⟨B_g1, B_g4, B_g10, trivial⟩ (fun W hS => (st_build (xs := [(0, Operand.tmp 30)]) (vs := [(0, Value.pointer (some ⟨u7_5, 0, none⟩))]) (cs := #[Value.pointer (some ⟨u7_5, 0, none⟩)]) rfl (by kernel_rfl))) ?_ (fun c a w h => hQ c a _ _ w h); clear hE a; intro a hE
     exact dr7_5 A7_5 c7_5 g7_7 u7_5 _ a (En.sub hE ⟨rfl, rfl, rfl, rfl, rfl, rfl, rfl, rfl, rfl, rfl, rfl, rfl, rfl, rfl, rfl, rfl, rfl, trivial⟩) B_g B_g1 B_g4 B_g10 B_g7_7 B_u7_5 n_g_g7_7 n_g_u7_5 n_g1_g7_7 n_g1_u7_5 n_g10_g4 n_g10_g7_7 n_g10_u7_5 n_g4_g7_7 n_g4_u7_5 n_g7_7_u7_5 z_0_g7_7 z_0_u7_5 z_s9_g7_7 z_s9_u7_5 Nb_q7_5_g Nb_q7_5_g1 Nb_q7_5_g4 Nb_q7_5_g10 Nb_q7_5_g7_7 Nb_q7_5_u7_5 Z_0_q7_5 Z_s9_q7_5 O_q7_5 K_0 K_s9
    exact all_nil
   have dr7_2 : ∀ (W : World) (a : Act), En 53 a [(0, Value.agg #[Value.pointer (some ⟨g, 0, none⟩)]), (1, Value.pointer (some ⟨g1, 0, none⟩)), (2, Value.pointer (some ⟨g4, 0, none⟩)), (3, Value.int .i64 0), (4, Value.int .i64 (k : Int)), (5, Value.pointer (some ⟨g10, 0, none⟩)), (6, Value.bool true), (20, Value.bool false), (23, Value.bool false), (25, Value.pointer (some ⟨g1, 0, none⟩)), (26, Value.pointer (some ⟨g, 0, none⟩)), (27, Value.pointer (some ⟨g1, 0, none⟩)), (28, Value.pointer (some ⟨g, 0, none⟩)), (29, Value.int .i64 v)] → W.heap[g]? = some (.cells #[Value.slice A l.length c, Value.int .i64 (p2 : Int), Value.int .i64 r2] 188 (0, 0)) → W.heap[g1]? = some (.cells #[Value.pointer (some ⟨g, 0, none⟩)] 107 (0, 0)) → W.heap[g4]? = some (.cells (([Value.int .i64 0, Value.slice none 0 0] ++ b16 (fun _ => 0) ++ [Value.slice none 0 0])).toArray 50 (0, 0)) → W.heap[g10]? = some (.cells #[Value.string (wordF k), Value.slice A1 ((sizesF k).length) c1, Value.int .i64 (behindF k), Value.bool (addrF k), Value.int .i64 (lenF k), Value.int .i64 (zeroF k)] 116 (0, 0)) → g10 ≠ g4 → Kp w W (fun k => k = g) → Kp w8 W (fun k => k = g ∨ k = g1 ∨ k = g4) → wpAnyH Try.prog .any (regOf Try.f52 7) QQ (fun W => W.heap[g1]? = some (.cells #[Value.pointer (some ⟨g, 0, none⟩)] 107 (0, 0)) ∧ W.heap[g4]? = some (.cells (([Value.int .i64 0, Value.slice none 0 0] ++ b16 (fun _ => 0) ++ [Value.slice none 0 0])).toArray 50 (0, 0)) ∧ W.heap[g10]? = some (.cells #[Value.string (wordF k), Value.slice A1 ((sizesF k).length) c1, Value.int .i64 (behindF k), Value.bool (addrF k), Value.int .i64 (lenF k), Value.int .i64 (zeroF k)] 116 (0, 0)) ∧ True) 4 #[true, true, true, true, true, false, false, false, false] a W := by
    intro w54 a hE B_g B_g1 B_g4 B_g10 n_g10_g4 K_0 K_s9
    refine d_all (rs := [5, 7]) (by kernel_rfl) rfl ?_
    refine all_cons (d_lit (listed' := #[true, true, true, true, true, true, false, false, false]) rfl ?_) ?_
    ·
     have hnb_g := blk_lt B_g
     have hnb_g1 := blk_lt B_g1
     have hnb_g4 := blk_lt B_g4
     have hnb_g10 := blk_lt B_g10
     have hnz_0 := K_0.kept.1
     have hnz_s9 := K_s9.kept.1
     refine (s_call (xs := [Operand.tmp 26, Operand.tmp 29]) (args := [Value.pointer (some ⟨g, 0, none⟩), Value.int .i64 v]) p52_7_5 hE wn_none rfl rfl Try.func110 cl110 (Go.Proofs.Ytgpclehnomkbmaa.Cu.within_e g A c l p2 n r2 v hvn9 p3 r3 hp39 hr39 _ (by omega) (by omega) (by omega) (by omega) d hd9 (by omega) B_g (fun W hk => F_A W (K_0.then_ hk (fun k h => by rw [show k = g from h]; exact Or.inl rfl)))) ?_)
     rintro e w56 ⟨u7_5, A7_5, c7_5, rfl, z55, O_q7_5, B_u7_5, hN9, _, B_g', hk⟩
     have n_g_u7_5 : g ≠ u7_5 := ne_new B_g z55
     have n_g1_u7_5 : g1 ≠ u7_5 := ne_new B_g1 z55
     have n_g4_u7_5 : g4 ≠ u7_5 := ne_new B_g4 z55
     have n_g10_u7_5 : g10 ≠ u7_5 := ne_new B_g10 z55
     have z_0_u7_5 := Nat.le_trans K_0.kept.1 z55
     have z_s9_u7_5 := Nat.le_trans K_s9.kept.1 z55
     replace B_g1 := kp_blk B_g1 hk (Ne.symm n_g_g1)
     replace B_g4 := kp_blk B_g4 hk (Ne.symm n_g_g4)
     replace B_g10 := kp_blk B_g10 hk (Ne.symm n_g_g10)
     replace K_0 := K_0.then_ hk (fun k h => by rw [show k = g from h]; exact Or.inl rfl)
     replace K_s9 := K_s9.then_ hk (fun k h => by rw [show k = g from h]; exact Or.inl (Or.inl rfl))
     replace B_g := B_g'
     have Nb_q7_5_g : ¬ OB A7_5 g := fun h => by have := (own_ob O_q7_5 h).1; have := hnb_g; omega
     have Nb_q7_5_g1 : ¬ OB A7_5 g1 := fun h => by have := (own_ob O_q7_5 h).1; have := hnb_g1; omega
     have Nb_q7_5_g4 : ¬ OB A7_5 g4 := fun h => by have := (own_ob O_q7_5 h).1; have := hnb_g4; omega
     have Nb_q7_5_g10 : ¬ OB A7_5 g10 := fun h => by have := (own_ob O_q7_5 h).1; have := hnb_g10; omega
     have Z_0_q7_5 : ∀ k, OB A7_5 k → (fun k => k = g) k ∨ w.heap.size ≤ k := fun k h => .inr (by have := (own_ob O_q7_5 h).1; have := hnz_0; omega)
     have Z_s9_q7_5 : ∀ k, OB A7_5 k → (fun k => k = g ∨ k = g1 ∨ k = g4) k ∨ w8.heap.size ≤ k := fun k h => .inr (by have := (own_ob O_q7_5 h).1; have := hnz_s9; omega)
     replace O_q7_5 := own_lower O_q7_5 hnz_0
     have Nb_q7_5_u7_5 := hN9
     refine ⟨_, rfl, ?_⟩; clear hE a; intro a hE
     refine ⟨⟨B_g1, B_g4, B_g10, trivial⟩, ?_⟩
     refine Rv.dq (listed' := #[true, true, true, true, true, true, true, false, false]) (v := Value.agg #[Value.pointer (some ⟨u7_5, 0, none⟩)]) p52_7_6 ns52_7 hE wn_none ⟨B_g1, B_g4, B_g10, trivial⟩ (fun W hS => (st_build (xs := [(0, Operand.tmp 30)]) (vs := [(0, Value.pointer (some ⟨u7_5, 0, none⟩))]) (cs := #[Value.pointer (some ⟨u7_5, 0, none⟩)]) rfl (by kernel_rfl))) ?_ (fun c a w h => hQ c a _ _ w h); clear hE a; intro a hE
     exact dr7_4 A7_5 c7_5 u7_5 _ a (En.sub hE ⟨rfl, rfl, rfl, rfl, rfl, rfl, rfl, rfl, rfl, rfl, rfl, rfl, rfl, rfl, rfl, rfl, trivial⟩) B_g B_g1 B_g4 B_g10 B_u7_5 n_g_u7_5 n_g1_u7_5 n_g10_g4 n_g10_u7_5 n_g4_u7_5 z_0_u7_5 z_s9_u7_5 Nb_q7_5_g Nb_q7_5_g1 Nb_q7_5_g4 Nb_q7_5_g10 Nb_q7_5_u7_5 Z_0_q7_5 Z_s9_q7_5 O_q7_5 K_0 K_s9
    refine all_cons (d_lit (listed' := #[true, true, true, true, true, false, false, true, false]) rfl ?_) ?_
    ·
     refine (s_alloc p52_7_7 hE wn_none rfl tZ107 ?_)
     clear hE a; intro g7_7 w57 z58 B_g7_7 hk a hE
     replace B_g7_7 : w57.heap[g7_7]? = some (.cells #[Value.pointer none] 107 (0, 0)) := B_g7_7
     have n_g_g7_7 : g ≠ g7_7 := ne_new B_g z58
     have n_g1_g7_7 : g1 ≠ g7_7 := ne_new B_g1 z58
     have n_g4_g7_7 : g4 ≠ g7_7 := ne_new B_g4 z58
     have n_g10_g7_7 : g10 ≠ g7_7 := ne_new B_g10 z58
     have z_0_g7_7 := Nat.le_trans K_0.kept.1 z58
     have z_s9_g7_7 := Nat.le_trans K_s9.kept.1 z58
     replace B_g := kp_blk B_g hk (fun h => h)
     replace B_g1 := kp_blk B_g1 hk (fun h => h)
     replace B_g4 := kp_blk B_g4 hk (fun h => h)
     replace B_g10 := kp_blk B_g10 hk (fun h => h)
     replace K_0 := K_0.then_ hk (fun _ h => h.elim)
     replace K_s9 := K_s9.then_ hk (fun _ h => h.elim)
     clear hk
     refine ⟨⟨B_g1, B_g4, B_g10, trivial⟩, ?_⟩
     exact dr7_3 g7_7 _ a (En.sub hE ⟨rfl, rfl, rfl, rfl, rfl, rfl, rfl, rfl, rfl, rfl, rfl, rfl, rfl, rfl, rfl, trivial⟩) B_g B_g1 B_g4 B_g10 B_g7_7 n_g_g7_7 n_g1_g7_7 n_g10_g4 n_g10_g7_7 n_g4_g7_7 z_0_g7_7 z_s9_g7_7 K_0 K_s9
    exact all_nil
   have dr7_1 : ∀ (g7_7 : Nat) (W : World) (a : Act), En 53 a [(0, Value.agg #[Value.pointer (some ⟨g, 0, none⟩)]), (1, Value.pointer (some ⟨g1, 0, none⟩)), (2, Value.pointer (some ⟨g4, 0, none⟩)), (3, Value.int .i64 0), (4, Value.int .i64 (k : Int)), (5, Value.pointer (some ⟨g10, 0, none⟩)), (6, Value.bool true), (7, Value.pointer (some ⟨g7_7, 0, none⟩)), (20, Value.bool false), (23, Value.bool false), (25, Value.pointer (some ⟨g1, 0, none⟩)), (26, Value.pointer (some ⟨g, 0, none⟩)), (27, Value.pointer (some ⟨g1, 0, none⟩)), (28, Value.pointer (some ⟨g, 0, none⟩))] → W.heap[g]? = some (.cells #[Value.slice A l.length c, Value.int .i64 (((p + 1) : Nat) : Int), Value.int .i64 0] 188 (0, 0)) → W.heap[g1]? = some (.cells #[Value.pointer (some ⟨g, 0, none⟩)] 107 (0, 0)) → W.heap[g4]? = some (.cells (([Value.int .i64 0, Value.slice none 0 0] ++ b16 (fun _ => 0) ++ [Value.slice none 0 0])).toArray 50 (0, 0)) → W.heap[g10]? = some (.cells #[Value.string (wordF k), Value.slice A1 ((sizesF k).length) c1, Value.int .i64 (behindF k), Value.bool (addrF k), Value.int .i64 (lenF k), Value.int .i64 (zeroF k)] 116 (0, 0)) → W.heap[g7_7]? = some (.cells #[Value.pointer none] 107 (0, 0)) → g ≠ g7_7 → g1 ≠ g7_7 → g10 ≠ g4 → g10 ≠ g7_7 → g4 ≠ g7_7 → w.heap.size ≤ g7_7 → w8.heap.size ≤ g7_7 → Kp w W (fun k => k = g) → Kp w8 W (fun k => k = g ∨ k = g1 ∨ k = g4) → wpAnyH Try.prog .any (regOf Try.f52 7) QQ (fun W => W.heap[g1]? = some (.cells #[Value.pointer (some ⟨g, 0, none⟩)] 107 (0, 0)) ∧ W.heap[g4]? = some (.cells (([Value.int .i64 0, Value.slice none 0 0] ++ b16 (fun _ => 0) ++ [Value.slice none 0 0])).toArray 50 (0, 0)) ∧ W.heap[g10]? = some (.cells #[Value.string (wordF k), Value.slice A1 ((sizesF k).length) c1, Value.int .i64 (behindF k), Value.bool (addrF k), Value.int .i64 (lenF k), Value.int .i64 (zeroF k)] 116 (0, 0)) ∧ True) 4 #[true, true, true, true, false, false, false, true, false] a W := by
    intro g7_7 w59 a hE B_g B_g1 B_g4 B_g10 B_g7_7 n_g_g7_7 n_g1_g7_7 n_g10_g4 n_g10_g7_7 n_g4_g7_7 z_0_g7_7 z_s9_g7_7 K_0 K_s9
    refine d_all (rs := [4]) (by kernel_rfl) rfl ?_
    refine all_cons (d_lit (listed' := #[true, true, true, true, true, false, false, true, false]) rfl ?_) ?_
    ·
     refine (s_call (xs := [Operand.tmp 28, Operand.const (Value.int IntKind.i64 1)]) (args := [Value.pointer (some ⟨g, 0, none⟩), Value.int .i64 1]) p52_7_4 hE wn_none rfl rfl Try.func109 cl109 (Go.Proofs.Ytgpclehnomkbmaa.Cu.take_e g A c l ((p + 1)) 1 0 1 rfl p2 r2 hp29 hr29 _ (by omega) (by omega) (by omega) (by omega) v hv9 (by omega) (by decide) hb B_g (fun W hk => F_A W (K_0.then_ hk (fun k h => by rw [show k = g from h]; exact Or.inl rfl)))) ?_)
     rintro e w60 ⟨rfl, B_g', hk⟩
     replace B_g1 := kp_blk B_g1 hk (Ne.symm n_g_g1)
     replace B_g4 := kp_blk B_g4 hk (Ne.symm n_g_g4)
     replace B_g10 := kp_blk B_g10 hk (Ne.symm n_g_g10)
     replace B_g7_7 := kp_blk B_g7_7 hk (Ne.symm n_g_g7_7)
     replace K_0 := K_0.then_ hk (fun k h => by rw [show k = g from h]; exact Or.inl rfl)
     replace K_s9 := K_s9.then_ hk (fun k h => by rw [show k = g from h]; exact Or.inl (Or.inl rfl))
     replace B_g := B_g'
     refine ⟨_, rfl, ?_⟩; clear hE a; intro a hE
     refine ⟨⟨B_g1, B_g4, B_g10, trivial⟩, ?_⟩
     exact dr7_3 g7_7 _ a (En.sub hE ⟨rfl, rfl, rfl, rfl, rfl, rfl, rfl, rfl, rfl, rfl, rfl, rfl, rfl, rfl, rfl, trivial⟩) B_g B_g1 B_g4 B_g10 B_g7_7 n_g_g7_7 n_g1_g7_7 n_g10_g4 n_g10_g7_7 n_g4_g7_7 z_0_g7_7 z_s9_g7_7 K_0 K_s9
    exact all_nil
   have dr7_0 : ∀ (W : World) (a : Act), En 53 a [(0, Value.agg #[Value.pointer (some ⟨g, 0, none⟩)]), (1, Value.pointer (some ⟨g1, 0, none⟩)), (2, Value.pointer (some ⟨g4, 0, none⟩)), (3, Value.int .i64 0), (4, Value.int .i64 (k : Int)), (5, Value.pointer (some ⟨g10, 0, none⟩)), (6, Value.bool true), (20, Value.bool false), (23, Value.bool false), (25, Value.pointer (some ⟨g1, 0, none⟩)), (26, Value.pointer (some ⟨g, 0, none⟩)), (27, Value.pointer (some ⟨g1, 0, none⟩)), (28, Value.pointer (some ⟨g, 0, none⟩))] → W.heap[g]? = some (.cells #[Value.slice A l.length c, Value.int .i64 (((p + 1) : Nat) : Int), Value.int .i64 0] 188 (0, 0)) → W.heap[g1]? = some (.cells #[Value.pointer (some ⟨g, 0, none⟩)] 107 (0, 0)) → W.heap[g4]? = some (.cells (([Value.int .i64 0, Value.slice none 0 0] ++ b16 (fun _ => 0) ++ [Value.slice none 0 0])).toArray 50 (0, 0)) → W.heap[g10]? = some (.cells #[Value.string (wordF k), Value.slice A1 ((sizesF k).length) c1, Value.int .i64 (behindF k), Value.bool (addrF k), Value.int .i64 (lenF k), Value.int .i64 (zeroF k)] 116 (0, 0)) → Kp w W (fun k => k = g) → Kp w8 W (fun k => k = g ∨ k = g1 ∨ k = g4) → wpAnyH Try.prog .any (regOf Try.f52 7) QQ (fun W => W.heap[g1]? = some (.cells #[Value.pointer (some ⟨g, 0, none⟩)] 107 (0, 0)) ∧ W.heap[g4]? = some (.cells (([Value.int .i64 0, Value.slice none 0 0] ++ b16 (fun _ => 0) ++ [Value.slice none 0 0])).toArray 50 (0, 0)) ∧ W.heap[g10]? = some (.cells #[Value.string (wordF k), Value.slice A1 ((sizesF k).length) c1, Value.int .i64 (behindF k), Value.bool (addrF k), Value.int .i64 (lenF k), Value.int .i64 (zeroF k)] 116 (0, 0)) ∧ True) 5 #[true, true, true, true, false, false, false, false, false] a W := by
    intro w61 a hE B_g B_g1 B_g4 B_g10 K_0 K_s9
    refine d_all (rs := [4, 7]) (by kernel_rfl) rfl ?_
    refine all_cons (d_lit (listed' := #[true, true, true, true, true, false, false, false, false]) rfl ?_) ?_
    ·
     refine (s_call (xs := [Operand.tmp 28, Operand.const (Value.int IntKind.i64 1)]) (args := [Value.pointer (some ⟨g, 0, none⟩), Value.int .i64 1]) p52_7_4 hE wn_none rfl rfl Try.func109 cl109 (Go.Proofs.Ytgpclehnomkbmaa.Cu.take_e g A c l ((p + 1)) 1 0 1 rfl p2 r2 hp29 hr29 _ (by omega) (by omega) (by omega) (by omega) v hv9 (by omega) (by decide) hb B_g (fun W hk => F_A W (K_0.then_ hk (fun k h => by rw [show k = g from h]; exact Or.inl rfl)))) ?_)
     rintro e w62 ⟨rfl, B_g', hk⟩
     replace B_g1 := kp_blk B_g1 hk (Ne.symm n_g_g1)
     replace B_g4 := kp_blk B_g4 hk (Ne.symm n_g_g4)
     replace B_g10 := kp_blk B_g10 hk (Ne.symm n_g_g10)
     replace K_0 := K_0.then_ hk (fun k h => by rw [show k = g from h]; exact Or.inl rfl)
     replace K_s9 := K_s9.then_ hk (fun k h => by rw [show k = g from h]; exact Or.inl (Or.inl rfl))
     replace B_g := B_g'
     refine ⟨_, rfl, ?_⟩; clear hE a; intro a hE
     refine ⟨⟨B_g1, B_g4, B_g10, trivial⟩, ?_⟩
     have n_g10_g4 := Ne.symm n_g4_g10
     exact dr7_2 _ a (En.sub hE ⟨rfl, rfl, rfl, rfl, rfl, rfl, rfl, rfl, rfl, rfl, rfl, rfl, rfl, rfl, trivial⟩) B_g B_g1 B_g4 B_g10 n_g10_g4 K_0 K_s9
    refine all_cons (d_lit (listed' := #[true, true, true, true, false, false, false, true, false]) rfl ?_) ?_
    ·
     refine (s_alloc p52_7_7 hE wn_none rfl tZ107 ?_)
     clear hE a; intro g7_7 w63 z64 B_g7_7 hk a hE
     replace B_g7_7 : w63.heap[g7_7]? = some (.cells #[Value.pointer none] 107 (0, 0)) := B_g7_7
     have n_g_g7_7 : g ≠ g7_7 := ne_new B_g z64
     have n_g1_g7_7 : g1 ≠ g7_7 := ne_new B_g1 z64
     have n_g4_g7_7 : g4 ≠ g7_7 := ne_new B_g4 z64
     have n_g10_g7_7 : g10 ≠ g7_7 := ne_new B_g10 z64
     have z_0_g7_7 := Nat.le_trans K_0.kept.1 z64
     have z_s9_g7_7 := Nat.le_trans K_s9.kept.1 z64
     replace B_g := kp_blk B_g hk (fun h => h)
     replace B_g1 := kp_blk B_g1 hk (fun h => h)
     replace B_g4 := kp_blk B_g4 hk (fun h => h)
     replace B_g10 := kp_blk B_g10 hk (fun h => h)
     replace K_0 := K_0.then_ hk (fun _ h => h.elim)
     replace K_s9 := K_s9.then_ hk (fun _ h => h.elim)
     clear hk
     refine ⟨⟨B_g1, B_g4, B_g10, trivial⟩, ?_⟩
     have n_g10_g4 := Ne.symm n_g4_g10
     exact dr7_1 g7_7 _ a (En.sub hE ⟨rfl, rfl, rfl, rfl, rfl, rfl, rfl, rfl, rfl, rfl, rfl, rfl, rfl, rfl, trivial⟩) B_g B_g1 B_g4 B_g10 B_g7_7 n_g_g7_7 n_g1_g7_7 n_g10_g4 n_g10_g7_7 n_g4_g7_7 z_0_g7_7 z_s9_g7_7 K_0 K_s9
    exact all_nil
   intro w16 hh hk
   replace B_g := kp_blk B_g hk (fun h => h)
   replace B_g1 := kp_blk B_g1 hk (fun h => h)
   replace B_g4 := kp_blk B_g4 hk (fun h => h)
   replace B_g10 := kp_blk B_g10 hk (fun h => h)
   replace K_0 := K_0.then_ hk (fun _ h => h.elim)
   replace K_s9 := K_s9.then_ hk (fun _ h => h.elim)
   clear hh hk
   refine Rv.dq (listed' := #[true, false, false, false, false, false, false, false, false]) (v := Value.pointer (some ⟨g1, 0, none⟩)) p52_7_0 ns52_7 hE wn_none ⟨B_g1, B_g4, B_g10, trivial⟩ (fun W hS => (st_fieldAddr Try.underlying107 rfl tS104 rfl rfl)) ?_ (fun c a w h => hQ c a _ _ w h); clear hE a; intro a hE
   refine Rv.dq (listed' := #[true, true, false, false, false, false, false, false, false]) (v := Value.pointer (some ⟨g, 0, none⟩)) p52_7_1 ns52_7 hE wn_none ⟨B_g1, B_g4, B_g10, trivial⟩ (fun W hS => (st_load1 tA104 rfl ((blk_cell hS.1 0).trans rfl))) ?_ (fun c a w h => hQ c a _ _ w h); clear hE a; intro a hE
   refine Rv.dq (listed' := #[true, true, true, false, false, false, false, false, false]) (v := Value.pointer (some ⟨g1, 0, none⟩)) p52_7_2 ns52_7 hE wn_none ⟨B_g1, B_g4, B_g10, trivial⟩ (fun W hS => (st_fieldAddr Try.underlying107 rfl tS104 rfl rfl)) ?_ (fun c a w h => hQ c a _ _ w h); clear hE a; intro a hE
   refine Rv.dq (listed' := #[true, true, true, true, false, false, false, false, false]) (v := Value.pointer (some ⟨g, 0, none⟩)) p52_7_3 ns52_7 hE wn_none ⟨B_g1, B_g4, B_g10, trivial⟩ (fun W hS => (st_load1 tA104 rfl ((blk_cell hS.1 0).trans rfl))) ?_ (fun c a w h => hQ c a _ _ w h); clear hE a; intro a hE
   have n_g10_g4 := Ne.symm n_g4_g10
   exact dr7_0 _ a (En.sub hE ⟨rfl, rfl, rfl, rfl, rfl, rfl, rfl, rfl, rfl, rfl, rfl, rfl, rfl, trivial⟩) B_g B_g1 B_g4 B_g10 K_0 K_s9
 ·
  refine c_reg R52_2_l ?_
  refine q0 p52_2_0 hE (st_move rfl) ?_; clear hE a; intro a hE
  refine p_cons (s_call (xs := [Operand.tmp 15]) (args := [Value.int .i64 (rd l (p : Int))]) p52_2_1 hE wn_none rfl rfl Try.func57 cl57 (of_no (rd l (p : Int)) hKN _) ?_)
  rintro e w65 ⟨rfl, hk⟩
  replace B_g := kp_blk B_g hk (fun h => h)
  replace B_g1 := kp_blk B_g1 hk (fun h => h)
  replace B_g4 := kp_blk B_g4 hk (fun h => h)
  replace K_0 := K_0.then_ hk (fun _ h => h.elim)
  refine ⟨_, rfl, ?_⟩; clear hE a; intro a hE
  refine q0 p52_2_2 hE (st_move rfl) ?_; clear hE a; intro a hE
  refine q0 p52_2_3 hE (st_extract rfl rfl) ?_; clear hE a; intro a hE
  refine q0 p52_2_4 hE (st_extract rfl rfl) ?_; clear hE a; intro a hE
  refine p_cons (s_alloc p52_2_5 hE wn_none rfl tZ116 ?_)
  clear hE a; intro g66 w67 z68 B_g66 hk a hE
  replace B_g66 : w67.heap[g66]? = some (.cells #[Value.string ByteArray.empty, Value.slice none 0 0, Value.int .i64 0, Value.bool false, Value.int .i64 0, Value.int .i64 0] 116 (0, 0)) := B_g66
  have n_g_g66 : g ≠ g66 := ne_new B_g z68
  have n_g1_g66 : g1 ≠ g66 := ne_new B_g1 z68
  have n_g4_g66 : g4 ≠ g66 := ne_new B_g4 z68
  have z_0_g66 := Nat.le_trans K_0.kept.1 z68
  replace B_g := kp_blk B_g hk (fun h => h)
  replace B_g1 := kp_blk B_g1 hk (fun h => h)
  replace B_g4 := kp_blk B_g4 hk (fun h => h)
  replace K_0 := K_0.then_ hk (fun _ h => h.elim)
  clear hk
  refine p_cons (s_store (off := 0) (k := 6) (cs' := #[Value.string ByteArray.empty, Value.slice none 0 0, Value.int .i64 0, Value.bool false, Value.int .i64 0, Value.int .i64 0]) p52_2_6 hE wn_none tS116 rfl rfl rfl rfl B_g66 (Nat.le_of_ble_eq_true rfl) rfl ?_)
  intro w69 B_g66' hk
  replace B_g := kp_blk B_g hk n_g_g66
  replace B_g1 := kp_blk B_g1 hk n_g1_g66
  replace B_g4 := kp_blk B_g4 hk n_g4_g66
  replace K_0 := K_0.then_ hk (fun k h => by rw [show k = g66 from h]; exact Or.inr z_0_g66)
  replace B_g66 := B_g66'
  clear hk
  refine q0 p52_2_7 hE (st_assign rfl) ?_; clear hE a; intro a hE
  refine p_nil (x_norm (wp_seq (c_reg R52_3_l ?_)))
  refine q0 p52_3_0 hE (st_move rfl) ?_; clear hE a; intro a hE
  refine q0 p52_3_1 hE (st_not rfl rfl) ?_; clear hE a; intro a hE
  refine p_nil (x_norm ?_)
  refine c_cond (t := true) hE rfl ?_
  refine c_reg R52_4_l ?_
  refine q0 p52_4_0 hE (st_build (xs := []) (vs := []) (cs := (([Value.int .i64 0, Value.slice none 0 0] ++ b16 (fun _ => 0) ++ [Value.slice none 0 0])).toArray) rfl (by kernel_rfl)) ?_; clear hE a; intro a hE
  refine p_cons (s_store (off := 0) (k := 19) (cs' := (([Value.int .i64 0, Value.slice none 0 0] ++ b16 (fun _ => 0) ++ [Value.slice none 0 0])).toArray) p52_4_1 hE wn_none tS50 rfl rfl rfl rfl B_g4 (Nat.le_of_ble_eq_true rfl) rfl ?_)
  intro w70 B_g4' hk
  replace B_g := kp_blk B_g hk n_g_g4
  replace B_g1 := kp_blk B_g1 hk n_g1_g4
  replace B_g66 := kp_blk B_g66 hk (Ne.symm n_g4_g66)
  replace K_0 := K_0.then_ hk (fun k h => by rw [show k = g4 from h]; exact Or.inr z_0_g4)
  replace B_g4 := B_g4'
  clear hk
  refine q0 p52_4_2 hE (st_assign rfl) ?_; clear hE a; intro a hE
  refine p_nil (x_norm (wp_ret (x_ret ?_)))
  refine ret_list (rs := [.cell 2 50, .tmp 3]) (vs := [Value.agg (([Value.int .i64 0, Value.slice none 0 0] ++ b16 (fun _ => 0) ++ [Value.slice none 0 0])).toArray, Value.int .i64 6]) rfl hE (.cellN (us := ([Value.int .i64 0, Value.slice none 0 0] ++ b16 (fun _ => 0) ++ [Value.slice none 0 0])) tA50 tS50 rfl B_g4 rfl (.tmp rfl .nil)) rfl ?_
  have hne9 : (nextO (l.drop p)).1 = 6 := next_six hKN hb hp
  exact ⟨none, 0, none, 0, (0, [], l16 (fun _ => 0), []), ((p + 1)), 0, by rw [hne9]; rfl, Nat.le_refl _, Nat.le_refl _, fun W' hk => Kd.C_nil _ _, fun W' hk => Kd.C_nil _ _, B_g, fun h => absurd (hne9.symm.trans h) (by decide), K_0⟩
theorem next_fine {b : List Int} (h : (nextO b).1 = 0) : ((nextO b).2.1.1, (nextO b).2.1.2.1, l16 (adr (nextO b).2.1), (nextO b).2.1.2.2.2) = (nextO b).2.1 := by
 have key : l16 (adr (nextO b).2.1) = (nextO b).2.1.2.2.1 := by
  unfold nextO at h ⊢
  split
  · rename_i c; rw [if_pos c] at h; cases h
  ·
   rename_i c; rw [if_neg c] at h
   split
   · rfl
   ·
    rename_i c2; rw [if_neg c2] at h
    split
    · rename_i c3; rw [if_pos c3] at h; cases h
    ·
     rename_i c3; rw [if_neg c3] at h
     split
     · rename_i c4; rw [if_pos c4] at h; cases h
     ·
      unfold mkO
      split
      · rfl
      ·
       split
       · rfl
       · exact l16_adr _
 rw [key]
theorem next_le {b : List Int} (hb : isB b) (hne : b ≠ []) (h : (nextO b).1 = 0) : (nextO b).2.2 ≤ b.length := (next_ok hb hne h).2.2.2
theorem R9_0_l : List.range (regOf Try.f9 0).size = [0, 1] := by kernel_rfl
theorem R9_1_l : List.range (regOf Try.f9 1).size = [0, 1, 2, 3, 4] := by kernel_rfl
theorem R9_2_l : List.range (regOf Try.f9 2).size = [0] := by kernel_rfl
theorem R9_3_l : List.range (regOf Try.f9 3).size = [0, 1, 2, 3] := by kernel_rfl
theorem R9_4_l : List.range (regOf Try.f9 4).size = [0, 1, 2] := by kernel_rfl
theorem R9_5_l : List.range (regOf Try.f9 5).size = [0, 1] := by kernel_rfl
theorem R9_6_l : List.range (regOf Try.f9 6).size = [0, 1, 2, 3, 4, 5, 6, 7] := by kernel_rfl
theorem R9_7_l : List.range (regOf Try.f9 7).size = [0, 1] := by kernel_rfl
theorem R9_8_l : List.range (regOf Try.f9 8).size = [0, 1, 2] := by kernel_rfl
theorem R9_9_l : List.range (regOf Try.f9 9).size = [0, 1, 2, 3, 4] := by kernel_rfl
theorem R9_10_l : List.range (regOf Try.f9 10).size = [0, 1, 2] := by kernel_rfl
theorem body9 : Try.f9.body = some (.seq (.region 0 (regOf Try.f9 0) false) (.seq (.region 1 (regOf Try.f9 1) false) (.seq (.region 2 (regOf Try.f9 2) false) (.seq (.block 0 (.loop (.seq (.seq (.region 3 (regOf Try.f9 3) false) (.cond (Operand.tmp 14) (.skip) (.exit 0))) (.block 1 (.seq (.seq (.region 4 (regOf Try.f9 4) false) (.cond (Operand.tmp 17) (.seq (.region 5 (regOf Try.f9 5) false) (.ret)) (.skip))) (.seq (.region 6 (regOf Try.f9 6) false) (.seq (.seq (.region 7 (regOf Try.f9 7) false) (.cond (Operand.tmp 24) (.seq (.region 8 (regOf Try.f9 8) false) (.ret)) (.skip))) (.region 9 (regOf Try.f9 9) false)))))))) (.seq (.region 10 (regOf Try.f9 10) false) (.ret)))))) := by kernel_rfl
theorem p9_0_0 : pj (regOf Try.f9 0) 0 = some (some 2, .assign (.const (.slice none 0 0)), 23, none) := by kernel_rfl
theorem p9_0_1 : pj (regOf Try.f9 0) 1 = some (some 3, .assign (.const (.int .i64 0)), 24, none) := by kernel_rfl
theorem p9_1_0 : pj (regOf Try.f9 1) 0 = some (some 8, .move (.tmp 0), 22, none) := by kernel_rfl
theorem p9_1_1 : pj (regOf Try.f9 1) 1 = some (some 9, .call { callee := .value (.func 50), args := #[.tmp 8], argTypes := #[22] }, 104, none) := by kernel_rfl
theorem cl50 : callable Try.f50 = true := by kernel_rfl
theorem p9_1_2 : pj (regOf Try.f9 1) 2 = some (some 10, .build 107 #[(0, .tmp 9)], 107, none) := by kernel_rfl
theorem p9_1_3 : pj (regOf Try.f9 1) 3 = some (some 4, .alloc 107, 0, none) := by kernel_rfl
theorem p9_1_4 : pj (regOf Try.f9 1) 4 = some (none, .store 107 (.tmp 4) (.tmp 10), 0, none) := by kernel_rfl
theorem p9_2_0 : pj (regOf Try.f9 2) 0 = some (some 5, .assign (.const (.slice none 0 0)), 23, none) := by kernel_rfl
theorem p9_3_0 : pj (regOf Try.f9 3) 0 = some (some 11, .fieldAddr 107 (.tmp 4) 0, 0, none) := by kernel_rfl
theorem p9_3_1 : pj (regOf Try.f9 3) 1 = some (some 12, .load 104 (.tmp 11), 104, none) := by kernel_rfl
theorem p9_3_2 : pj (regOf Try.f9 3) 2 = some (some 13, .call { callee := .value (.func 51), args := #[.tmp 12], argTypes := #[104] }, 3, none) := by kernel_rfl
theorem cl51 : callable Try.f51 = true := by kernel_rfl
theorem p9_3_3 : pj (regOf Try.f9 3) 3 = some (some 14, .binOp .gtr 3 (.tmp 13) (.const (.int .i64 0)) 3, 4, none) := by kernel_rfl
theorem p9_4_0 : pj (regOf Try.f9 4) 0 = some (some 15, .move (.tmp 5), 23, none) := by kernel_rfl
theorem p9_4_1 : pj (regOf Try.f9 4) 1 = some (some 16, .call { callee := .builtin .len, args := #[.tmp 15], argTypes := #[23] }, 3, none) := by kernel_rfl
theorem p9_4_2 : pj (regOf Try.f9 4) 2 = some (some 17, .binOp .eql 3 (.tmp 16) (.const (.int .i64 16)) 3, 4, none) := by kernel_rfl
theorem p9_5_0 : pj (regOf Try.f9 5) 0 = some (some 2, .assign (.const (.slice none 0 0)), 23, none) := by kernel_rfl
theorem p9_5_1 : pj (regOf Try.f9 5) 1 = some (some 3, .assign (.const (.int .i64 2)), 24, none) := by kernel_rfl
theorem p9_6_0 : pj (regOf Try.f9 6) 0 = some (some 19, .load 107 (.tmp 4), 107, none) := by kernel_rfl
theorem p9_6_1 : pj (regOf Try.f9 6) 1 = some (some 20, .call { callee := .value (.func 52), args := #[.tmp 19], argTypes := #[107] }, 109, none) := by kernel_rfl
theorem cl52 : callable Try.f52 = true := by kernel_rfl
theorem p9_6_2 : pj (regOf Try.f9 6) 2 = some (some 18, .move (.tmp 20), 109, none) := by kernel_rfl
theorem p9_6_3 : pj (regOf Try.f9 6) 3 = some (some 21, .extract (.tmp 18) 0, 50, none) := by kernel_rfl
theorem p9_6_4 : pj (regOf Try.f9 6) 4 = some (some 22, .extract (.tmp 18) 1, 24, none) := by kernel_rfl
theorem p9_6_5 : pj (regOf Try.f9 6) 5 = some (some 6, .alloc 50, 0, none) := by kernel_rfl
theorem p9_6_6 : pj (regOf Try.f9 6) 6 = some (none, .store 50 (.tmp 6) (.tmp 21), 0, none) := by kernel_rfl
theorem p9_6_7 : pj (regOf Try.f9 6) 7 = some (some 7, .assign (.tmp 22), 24, none) := by kernel_rfl
theorem p9_7_0 : pj (regOf Try.f9 7) 0 = some (some 23, .move (.tmp 7), 24, none) := by kernel_rfl
theorem p9_7_1 : pj (regOf Try.f9 7) 1 = some (some 24, .binOp .neq 24 (.tmp 23) (.const (.int .i64 0)) 24, 4, none) := by kernel_rfl
theorem p9_9_0 : pj (regOf Try.f9 9) 0 = some (some 26, .move (.tmp 5), 23, none) := by kernel_rfl
theorem p9_9_1 : pj (regOf Try.f9 9) 1 = some (some 27, .load 50 (.tmp 6), 50, none) := by kernel_rfl
theorem p9_9_2 : pj (regOf Try.f9 9) 2 = some (some 28, .buildSlice 23 1 #[(0, .tmp 27)], 23, none) := by kernel_rfl
theorem p9_9_3 : pj (regOf Try.f9 9) 3 = some (some 29, .call { callee := .builtin .append, args := #[.tmp 26, .tmp 28], argTypes := #[23, 23] }, 23, none) := by kernel_rfl
theorem eD50 : elemD Try.prog 50 = some (19, 19, 72) := by kernel_rfl
theorem p9_9_4 : pj (regOf Try.f9 9) 4 = some (some 5, .assign (.tmp 29), 23, none) := by kernel_rfl
theorem p9_8_0 : pj (regOf Try.f9 8) 0 = some (some 25, .move (.tmp 7), 24, none) := by kernel_rfl
theorem p9_8_1 : pj (regOf Try.f9 8) 1 = some (some 2, .assign (.const (.slice none 0 0)), 23, none) := by kernel_rfl
theorem p9_8_2 : pj (regOf Try.f9 8) 2 = some (some 3, .assign (.tmp 25), 24, none) := by kernel_rfl
theorem p9_10_0 : pj (regOf Try.f9 10) 0 = some (some 30, .move (.tmp 5), 23, none) := by kernel_rfl
theorem p9_10_1 : pj (regOf Try.f9 10) 1 = some (some 2, .assign (.tmp 30), 23, none) := by kernel_rfl
theorem p9_10_2 : pj (regOf Try.f9 10) 2 = some (some 3, .assign (.const (.int .i64 0)), 24, none) := by kernel_rfl
set_option maxHeartbeats 4000000 in
theorem dec_any (A : Option Addr) (c : Nat) (l : List Int) (w : World) (hl : l.length ≤ 1000000) (hc : l.length ≤ c) (hc2 : c ≤ 9223372036854775807) (hb : isB l) (F_A : ∀ W', Kp w W' (fun _ => False) → Kd.C (Kd.int .u8) W' A l.length l) : Calls Try.prog 9 #[.slice A l.length c] w fun e w' => ∃ A' c', e = .returned (.tuple #[.slice A' (decO l).length c', .int .i64 (decE l)]) ∧ (decO l).length ≤ c' ∧ (∀ W', Kp w' W' (fun _ => False) → Kd.C dO W' A' (decO l).length (decO l)) ∧ Kp w w' (fun _ => False) := by
 have K_0 := Kp.refl w (fun _ => False)
 refine enter (args := [Value.slice A l.length c]) (n := 31) Try.func9 body9 rfl rfl rfl ?_
 intro a hE
 refine c_reg R9_0_l ?_
 refine q0 p9_0_0 hE (st_assign rfl) ?_; clear hE a; intro a hE
 refine q0 p9_0_1 hE (st_assign rfl) ?_; clear hE a; intro a hE
 refine p_nil (x_norm (c_reg R9_1_l ?_))
 refine q0 p9_1_0 hE (st_move rfl) ?_; clear hE a; intro a hE
 refine p_cons (s_call (xs := [Operand.tmp 8]) (args := [Value.slice A l.length c]) p9_1_1 hE wn_none rfl rfl Try.func50 cl50 (Go.Proofs.Ytgpclehnomkbmaa.Cu.over_c A l.length c _) ?_)
 rintro e w3 ⟨u1, rfl, z2, B_u1, hk⟩
 have z_0_u1 := Nat.le_trans K_0.kept.1 z2
 replace K_0 := K_0.then_ hk (fun _ h => h.elim)
 refine ⟨_, rfl, ?_⟩; clear hE a; intro a hE
 refine q0 p9_1_2 hE (st_build (xs := [(0, Operand.tmp 9)]) (vs := [(0, Value.pointer (some ⟨u1, 0, none⟩))]) (cs := #[Value.pointer (some ⟨u1, 0, none⟩)]) rfl (by kernel_rfl)) ?_; clear hE a; intro a hE
 refine p_cons (s_alloc p9_1_3 hE wn_none rfl tZ107 ?_)
 clear hE a; intro g4 w5 z6 B_g4 hk a hE
 replace B_g4 : w5.heap[g4]? = some (.cells #[Value.pointer none] 107 (0, 0)) := B_g4
 have n_u1_g4 : u1 ≠ g4 := ne_new B_u1 z6
 have z_0_g4 := Nat.le_trans K_0.kept.1 z6
 replace B_u1 := kp_blk B_u1 hk (fun h => h)
 replace K_0 := K_0.then_ hk (fun _ h => h.elim)
 clear hk
 refine p_cons (s_store (off := 0) (k := 1) (cs' := #[Value.pointer (some ⟨u1, 0, none⟩)]) p9_1_4 hE wn_none tS107 rfl rfl rfl rfl B_g4 (Nat.le_of_ble_eq_true rfl) rfl ?_)
 intro w7 B_g4' hk
 replace B_u1 := kp_blk B_u1 hk n_u1_g4
 replace K_0 := K_0.then_ hk (fun k h => by rw [show k = g4 from h]; exact Or.inr z_0_g4)
 replace B_g4 := B_g4'
 clear hk
 refine p_nil (x_norm (c_reg R9_2_l ?_))
 refine q0 p9_2_0 hE (st_assign rfl) ?_; clear hE a; intro a hE
 refine p_nil (x_norm (wp_seq (wp_block ?_)))
 have O_out := own_none w7 w.heap.size 50 19
 have Nb_out_u1 : ¬ OB none u1 := ob_nil
 have Nb_out_g4 : ¬ OB none g4 := ob_nil
 have Z_0_out : ∀ k, OB none k → (fun _ => False) k ∨ w.heap.size ≤ k := fun k h => absurd h ob_nil
 refine c_loop (α := Nat) (fun j a W => ∃ (A_out : Option Addr) (c_out : Nat) (n_out : Nat), ∃ (zs : List Value), ∃ (xs : List OV), ∃ (p : Nat), En 31 a [(0, Value.slice A l.length c), (4, Value.pointer (some ⟨g4, 0, none⟩)), (5, Value.slice A_out n_out c_out)] ∧ j ≤ 16 ∧ xs.length = j ∧ n_out = j ∧ p ≤ l.length ∧ upto l (16 - j) xs (l.drop p) ∧ ((∀ W', Kp W W' (fun k => OB A_out k ∨ k = u1) → Reps (Kd.K dO W') 19 xs zs)) ∧ W.heap[u1]? = some (.cells #[Value.slice A l.length c, Value.int .i64 (p : Int), Value.int .i64 0] 188 (0, 0)) ∧ W.heap[g4]? = some (.cells #[Value.pointer (some ⟨u1, 0, none⟩)] 107 (0, 0)) ∧ W.ownsRow w.heap.size 50 19 (.slice A_out n_out c_out) n_out zs ∧ ¬ OB A_out u1 ∧ ¬ OB A_out g4 ∧ (∀ k, OB A_out k → (fun _ => False) k ∨ w.heap.size ≤ k) ∧ Kp w W (fun _ => False)) (fun j => 17 - j) (0) ?_ ?_
 ·
  exact ⟨none, 0, 0, [], [], 0, En.sub hE ⟨rfl, rfl, rfl, trivial⟩, Nat.zero_le _, rfl, rfl, Nat.zero_le _, (upto_start l), (fun W' hk => Reps.none _ _), B_u1, B_g4, O_out, Nb_out_u1, Nb_out_g4, Z_0_out, K_0⟩
 ·
  clear hE a
  rintro j a w8 ⟨A_out, c_out, n_out, zs, xs, p, hE, hj9, hxs, hn_out, hpl, hup, F_out, B_u1, B_g4, O_out, Nb_out_u1, Nb_out_g4, Z_0_out, K_0⟩
  refine wp_seq (c_reg R9_3_l ?_)
  have K_s9 := Kp.refl w8 (fun k => k = u1 ∨ OB A_out k)
  have Z_s9_out : ∀ k, OB A_out k → (fun k => k = u1 ∨ OB A_out k) k ∨ w8.heap.size ≤ k := fun k h => .inl (Or.inr h)
  refine q0 p9_3_0 hE (st_fieldAddr Try.underlying107 rfl tS104 rfl rfl) ?_; clear hE a; intro a hE
  refine q0 p9_3_1 hE (st_load1 tA104 rfl ((blk_cell B_g4 0).trans rfl)) ?_; clear hE a; intro a hE
  refine p_cons (s_call (xs := [Operand.tmp 12]) (args := [Value.pointer (some ⟨u1, 0, none⟩)]) p9_3_2 hE wn_none rfl rfl Try.func51 cl51 (Go.Proofs.Ytgpclehnomkbmaa.Cu.left_c _ u1 A c p _ _ (by omega) (by omega) B_u1) ?_)
  rintro e w10 ⟨rfl, hk⟩
  replace B_u1 := kp_blk B_u1 hk (fun h => h)
  replace B_g4 := kp_blk B_g4 hk (fun h => h)
  replace O_out := own_keep O_out hk (fun _ _ h => h)
  replace K_0 := K_0.then_ hk (fun _ h => h.elim)
  replace K_s9 := K_s9.then_ hk (fun _ h => h.elim)
  refine ⟨_, rfl, ?_⟩; clear hE a; intro a hE
  rcases Decidable.em (0 < ((l.length - p : Nat) : Int)) with hc11 | hc11
  ·
   refine p_cons (s_still (v := Value.bool true) p9_3_3 hE wn_none rfl (st_gtr rfl rfl (decide_eq_true hc11)) ?_); clear hE a; intro a hE
   refine p_nil (x_norm ?_)
   refine c_cond (t := true) hE rfl ?_
   refine wp_skip (x_norm (wp_block (wp_seq (c_reg R9_4_l ?_))))
   refine q0 p9_4_0 hE (st_move rfl) ?_; clear hE a; intro a hE
   refine q0 p9_4_1 hE (st_len Try.underlying23 rfl) ?_; clear hE a; intro a hE
   rcases Decidable.em ((n_out : Int) = 16) with hc12 | hc12
   ·
    refine p_cons (s_still (v := Value.bool true) p9_4_2 hE wn_none rfl (st_eql rfl rfl (decide_eq_true hc12)) ?_); clear hE a; intro a hE
    refine p_nil (x_norm ?_)
    refine c_cond (t := true) hE rfl ?_
    refine c_reg R9_5_l ?_
    refine q0 p9_5_0 hE (st_assign rfl) ?_; clear hE a; intro a hE
    refine q0 p9_5_1 hE (st_assign rfl) ?_; clear hE a; intro a hE
    refine p_nil (x_norm (wp_ret (x_ret (x_retB (x_ret (x_retB (x_ret ?_)))))))
    refine ret_list (rs := [.tmp 2, .tmp 3]) (vs := [Value.slice none 0 0, Value.int .i64 2]) rfl hE (.tmp rfl (.tmp rfl .nil)) rfl ?_
    have hE9 : decE l = 2 := upto_full (by rw [show 16 - j = 0 by omega] at hup; exact hup) (fun h => by have := congrArg List.length h; rw [List.length_drop] at this; simp at this; omega)
    have hO9 := decO_bad (by rw [hE9]; decide)
    exact ⟨none, 0, by rw [hE9, hO9]; rfl, by rw [hO9]; exact Nat.le_refl _, fun W' hk => by rw [hO9]; exact Kd.C_nil _ _, K_0⟩
   ·
    refine p_cons (s_still (v := Value.bool false) p9_4_2 hE wn_none rfl (st_eql rfl rfl (decide_eq_false hc12)) ?_); clear hE a; intro a hE
    refine p_nil (x_norm ?_)
    refine c_cond (t := false) hE rfl ?_
    refine wp_skip (x_norm (c_reg R9_6_l ?_))
    refine q0 p9_6_0 hE (st_loadN (off := 0) (k := 1) (vs := [Value.pointer (some ⟨u1, 0, none⟩)]) tA107 tS107 rfl B_g4 rfl rfl) ?_; clear hE a; intro a hE
    have hlg9 := blk_lt B_u1
    have hlo9 : ∀ k, OB A_out k → k < w10.heap.size := fun k h => (own_ob O_out h).2
    have hne9 : l.drop p ≠ [] := fun h => by have := congrArg List.length h; rw [List.length_drop] at this; simp at this; omega
    refine p_cons (s_call (xs := [Operand.tmp 19]) (args := [Value.agg #[Value.pointer (some ⟨u1, 0, none⟩)]]) p9_6_1 hE wn_none rfl rfl Try.func52 cl52 (next_c u1 A c l p (by omega) _ hl hc hc2 hb B_u1 (fun W hk => F_A W (K_0.then_ hk (fun k h => by rw [show k = u1 from h]; exact Or.inr z_0_u1)))) ?_)
    rintro e w13 ⟨B9, q9, T9, ct9, x, p', r', rfl, hq9, hct9, hFB, hFT, B_u1', hnx, hk⟩
    replace B_g4 := kp_blk B_g4 hk (Ne.symm n_u1_g4)
    replace O_out := own_keep O_out hk (fun k hk2 h2 => Nb_out_u1 (by rw [show k = u1 from h2] at hk2; exact hk2))
    replace K_0 := K_0.then_ hk (fun k h => by rw [show k = u1 from h]; exact Or.inr z_0_u1)
    replace K_s9 := K_s9.then_ hk (fun k h => by rw [show k = u1 from h]; exact Or.inl (Or.inl rfl))
    replace B_u1 := B_u1'
    have K_s14 := Kp.refl w13 (fun k => k = u1 ∨ OB A_out k)
    have Z_s14_out : ∀ k, OB A_out k → (fun k => k = u1 ∨ OB A_out k) k ∨ w13.heap.size ≤ k := fun k h => .inl (Or.inr h)
    refine ⟨_, rfl, ?_⟩; clear hE a; intro a hE
    refine q0 p9_6_2 hE (st_move rfl) ?_; clear hE a; intro a hE
    refine q0 p9_6_3 hE (st_extract rfl rfl) ?_; clear hE a; intro a hE
    refine q0 p9_6_4 hE (st_extract rfl rfl) ?_; clear hE a; intro a hE
    refine p_cons (s_alloc p9_6_5 hE wn_none rfl tZ50 ?_)
    clear hE a; intro g15 w16 z17 B_g15 hk a hE
    replace B_g15 : w16.heap[g15]? = some (.cells (([Value.int .i64 0, Value.slice none 0 0] ++ b16 (fun _ => 0) ++ [Value.slice none 0 0])).toArray 50 (0, 0)) := B_g15
    have n_u1_g15 : u1 ≠ g15 := ne_new B_u1 z17
    have n_g4_g15 : g4 ≠ g15 := ne_new B_g4 z17
    have z_0_g15 := Nat.le_trans K_0.kept.1 z17
    have z_s9_g15 := Nat.le_trans K_s9.kept.1 z17
    have z_s14_g15 := Nat.le_trans K_s14.kept.1 z17
    have Nb_out_g15 : ¬ OB A_out g15 := fun h => by have := (own_ob O_out h).2; omega
    replace B_u1 := kp_blk B_u1 hk (fun h => h)
    replace B_g4 := kp_blk B_g4 hk (fun h => h)
    replace O_out := own_keep O_out hk (fun _ _ h => h)
    replace K_0 := K_0.then_ hk (fun _ h => h.elim)
    replace K_s9 := K_s9.then_ hk (fun _ h => h.elim)
    replace K_s14 := K_s14.then_ hk (fun _ h => h.elim)
    clear hk
    refine p_cons (s_store (off := 0) (k := 19) (cs' := (([Value.int .i64 x.1, Value.slice B9 x.2.1.length q9] ++ b16 (adr x) ++ [Value.slice T9 x.2.2.2.length ct9])).toArray) p9_6_6 hE wn_none tS50 rfl rfl rfl rfl B_g15 (Nat.le_of_ble_eq_true rfl) rfl ?_)
    intro w18 B_g15' hk
    replace B_u1 := kp_blk B_u1 hk n_u1_g15
    replace B_g4 := kp_blk B_g4 hk n_g4_g15
    replace O_out := own_keep O_out hk (fun k hk2 h2 => Nb_out_g15 (by rw [show k = g15 from h2] at hk2; exact hk2))
    replace K_0 := K_0.then_ hk (fun k h => by rw [show k = g15 from h]; exact Or.inr z_0_g15)
    replace K_s9 := K_s9.then_ hk (fun k h => by rw [show k = g15 from h]; exact Or.inr z_s9_g15)
    replace K_s14 := K_s14.then_ hk (fun k h => by rw [show k = g15 from h]; exact Or.inr z_s14_g15)
    replace B_g15 := B_g15'
    clear hk
    refine q0 p9_6_7 hE (st_assign rfl) ?_; clear hE a; intro a hE
    refine p_nil (x_norm (wp_seq (c_reg R9_7_l ?_)))
    refine q0 p9_7_0 hE (st_move rfl) ?_; clear hE a; intro a hE
    rcases Decidable.em ((nextO (l.drop p)).1 = 0) with hc19 | hc19
    ·
     refine p_cons (s_still (v := Value.bool false) p9_7_1 hE wn_none rfl (st_neq rfl rfl (by rw [decide_eq_true hc19]; rfl)) ?_); clear hE a; intro a hE
     refine p_nil (x_norm ?_)
     refine c_cond (t := false) hE rfl ?_
     refine wp_skip (x_norm (c_regL R9_9_l ?_))
     have hnz9 : (nextO (l.drop p)).1 = 0 := hc19
     obtain ⟨hx9, hp9, hr9⟩ := hnx hnz9
     subst hr9
     have hpl9 : p' ≤ l.length := by have := next_le (isB_drop hb p) hne9 hnz9; rw [List.length_drop] at this; omega
     refine q0 p9_9_0 hE (st_move rfl) ?_; clear hE a; intro a hE
     refine q0 p9_9_1 hE (st_loadN (off := 0) (k := 19) (vs := ([Value.int .i64 x.1, Value.slice B9 x.2.1.length q9] ++ b16 (adr x) ++ [Value.slice T9 x.2.2.2.length ct9])) tA50 tS50 rfl B_g15 rfl rfl) ?_; clear hE a; intro a hE
     refine p_cons (s_row (xs := [(0, Operand.tmp 27)]) (vs := [(0, Value.agg (([Value.int .i64 x.1, Value.slice B9 x.2.1.length q9] ++ b16 (adr x) ++ [Value.slice T9 x.2.2.2.length ct9])).toArray)]) (cs := (([Value.int .i64 x.1, Value.slice B9 x.2.1.length q9] ++ b16 (adr x) ++ [Value.slice T9 x.2.2.2.length ct9])).toArray) p9_9_2 hE wn_none rfl Try.underlying23 rfl (by kernel_rfl) ?_)
     clear hE a; intro g20 w21 z22 B_g20 hk a hE
     have n_u1_g20 : u1 ≠ g20 := ne_new B_u1 z22
     have n_g4_g20 : g4 ≠ g20 := ne_new B_g4 z22
     have n_g15_g20 : g15 ≠ g20 := ne_new B_g15 z22
     have z_0_g20 := Nat.le_trans K_0.kept.1 z22
     have z_s9_g20 := Nat.le_trans K_s9.kept.1 z22
     have z_s14_g20 := Nat.le_trans K_s14.kept.1 z22
     have Nb_out_g20 : ¬ OB A_out g20 := fun h => by have := (own_ob O_out h).2; omega
     replace B_u1 := kp_blk B_u1 hk (fun h => h)
     replace B_g4 := kp_blk B_g4 hk (fun h => h)
     replace B_g15 := kp_blk B_g15 hk (fun h => h)
     replace O_out := own_keep O_out hk (fun _ _ h => h)
     replace K_0 := K_0.then_ hk (fun _ h => h.elim)
     replace K_s9 := K_s9.then_ hk (fun _ h => h.elim)
     replace K_s14 := K_s14.then_ hk (fun _ h => h.elim)
     clear hk
     refine p_cons (s_append (s := 19) (xs := zs) (news := ([Value.int .i64 x.1, Value.slice B9 x.2.1.length q9] ++ b16 (adr x) ++ [Value.slice T9 x.2.2.2.length ct9])) p9_9_3 hE wn_none rfl Try.underlying23 eD50 (by decide) rfl O_out rfl rfl (newsB B_g20 rfl) (ones rfl) (by omega) (by omega) K_0.kept.1 ?_)
     clear hE a; intro Aout23 cout24 w25 O_out' hk hat a hE
     have Nb_out_u1' := grow_n Nb_out_u1 (blk_lt B_u1) hat
     have Nb_out_g4' := grow_n Nb_out_g4 (blk_lt B_g4) hat
     have Nb_out_g15' := grow_n Nb_out_g15 (blk_lt B_g15) hat
     have Nb_out_g20' := grow_n Nb_out_g20 (blk_lt B_g20) hat
     have Z_0_out' := grow_z Z_0_out K_0.kept.1 hat
     have Z_s9_out' := grow_z Z_s9_out K_s9.kept.1 hat
     have Z_s14_out' := grow_z Z_s14_out K_s14.kept.1 hat
     replace B_u1 := kp_blk B_u1 hk Nb_out_u1
     replace B_g4 := kp_blk B_g4 hk Nb_out_g4
     replace B_g15 := kp_blk B_g15 hk Nb_out_g15
     replace B_g20 := kp_blk B_g20 hk Nb_out_g20
     replace K_0 := K_0.then_ hk Z_0_out
     replace K_s9 := K_s9.then_ hk Z_s9_out
     replace K_s14 := K_s14.then_ hk Z_s14_out
     replace Nb_out_u1 := Nb_out_u1'
     replace Nb_out_g4 := Nb_out_g4'
     replace Nb_out_g15 := Nb_out_g15'
     replace Nb_out_g20 := Nb_out_g20'
     replace Z_0_out := Z_0_out'
     replace Z_s9_out := Z_s9_out'
     replace Z_s14_out := Z_s14_out'
     replace O_out := O_out'
     try clear O_out'
     clear hk hat
     refine q0 p9_9_4 hE (st_assign rfl) ?_; clear hE a; intro a hE
     refine p_nil (x_normB (x_norm ?_))
     have F9 : ∀ W', Kp w25 W' (fun k => OB Aout23 k ∨ k = u1) → Reps (Kd.K dO W') 19 (xs ++ [x]) (zs ++ ([Value.int .i64 x.1, Value.slice B9 x.2.1.length q9] ++ b16 (adr x) ++ [Value.slice T9 x.2.2.2.length ct9])) := fun W' hk => by
      have hk1 : Kp w8 W' (fun k => OB A_out k ∨ k = u1) := (K_s9.mono (fun k h => by have h : k = u1 ∨ OB A_out k := h; rcases h with h | h; exact .inr h; exact .inl h)).then_ hk (fun k h => h.elim (fun h => (Z_s9_out k h).elim (fun h => .inl (by have h : k = u1 ∨ OB A_out k := h; rcases h with h | h; exact .inr h; exact .inl h)) .inr) (fun h => .inl (.inr h)))
      have hk2 : Kp w13 W' (fun k => k < w10.heap.size) := (K_s14.mono (fun k h => by have h : k = u1 ∨ OB A_out k := h; rcases h with h | h; omega; exact hlo9 k h)).then_ hk (fun k h => h.elim (fun h => (Z_s14_out k h).elim (fun h => .inl (by have h : k = u1 ∨ OB A_out k := h; rcases h with h | h; omega; exact hlo9 k h)) .inr) (fun h => .inl (by omega)))
      refine Reps.snoc (F_out W' hk1) ?_ rfl
      have hm9 := opt_mk x.1 x.2.1 (adr x) x.2.2.2 rfl rfl hq9 hct9 (hFB W' hk2) (hFT W' hk2)
      rw [show (x.1, x.2.1, l16 (adr x), x.2.2.2) = x from by rw [hx9]; exact next_fine hnz9] at hm9
      exact hm9
     have hup9 : upto l (16 - (j + 1)) (xs ++ [x]) (l.drop p') := by
      have h := upto_step (b := l) (m := 16 - (j + 1)) (xs := xs) (rest := l.drop p) (by rw [show 16 - (j + 1) + 1 = 16 - j by omega]; exact hup) hne9 hnz9
      rw [List.drop_drop, ← hp9, ← hx9] at h; exact h
     exact ⟨j + 1, by omega, Aout23, cout24, (n_out + 1), (zs ++ ([Value.int .i64 x.1, Value.slice B9 x.2.1.length q9] ++ b16 (adr x) ++ [Value.slice T9 x.2.2.2.length ct9])), (xs ++ [x]), p', En.sub hE ⟨rfl, rfl, rfl, trivial⟩, (by omega), (by rw [List.length_append, hxs]; rfl), (by omega), hpl9, hup9, F9, B_u1, B_g4, O_out, Nb_out_u1, Nb_out_g4, Z_0_out, K_0⟩
    ·
     refine p_cons (s_still (v := Value.bool true) p9_7_1 hE wn_none rfl (st_neq rfl rfl (by rw [decide_eq_false hc19]; rfl)) ?_); clear hE a; intro a hE
     refine p_nil (x_norm ?_)
     refine c_cond (t := true) hE rfl ?_
     refine c_reg R9_8_l ?_
     refine q0 p9_8_0 hE (st_move rfl) ?_; clear hE a; intro a hE
     refine q0 p9_8_1 hE (st_assign rfl) ?_; clear hE a; intro a hE
     refine q0 p9_8_2 hE (st_assign rfl) ?_; clear hE a; intro a hE
     refine p_nil (x_norm (wp_ret (x_ret (x_retB (x_ret (x_retB (x_ret ?_)))))))
     refine ret_list (rs := [.tmp 2, .tmp 3]) (vs := [Value.slice none 0 0, Value.int .i64 ((nextO (l.drop p)).1)]) rfl hE (.tmp rfl (.tmp rfl .nil)) rfl ?_
     have hE9 : decE l = (nextO (l.drop p)).1 := upto_bad (m := 16 - (j + 1)) (xs := xs) (by rw [show 16 - (j + 1) + 1 = 16 - j by omega]; exact hup) hne9 hc19
     have hO9 := decO_bad (by rw [hE9]; exact hc19)
     exact ⟨none, 0, by rw [hE9, hO9]; rfl, by rw [hO9]; exact Nat.le_refl _, fun W' hk => by rw [hO9]; exact Kd.C_nil _ _, K_0⟩
  ·
   refine p_cons (s_still (v := Value.bool false) p9_3_3 hE wn_none rfl (st_gtr rfl rfl (decide_eq_false hc11)) ?_); clear hE a; intro a hE
   refine p_nil (x_norm ?_)
   refine c_cond (t := false) hE rfl ?_
   refine wp_exit (x_exit (x_exit (x_in (x_norm (c_reg R9_10_l ?_)))))
   refine q0 p9_10_0 hE (st_move rfl) ?_; clear hE a; intro a hE
   refine q0 p9_10_1 hE (st_assign rfl) ?_; clear hE a; intro a hE
   refine q0 p9_10_2 hE (st_assign rfl) ?_; clear hE a; intro a hE
   refine p_nil (x_norm (wp_ret ?_))
   refine ret_list (rs := [.tmp 2, .tmp 3]) (vs := [Value.slice A_out n_out c_out, Value.int .i64 0]) rfl hE (.tmp rfl (.tmp rfl .nil)) rfl ?_
   rw [show l.drop p = [] from List.drop_of_length_le (by omega)] at hup
   obtain ⟨hE9, hO9⟩ := upto_end hup
   subst hn_out
   exact ⟨A_out, c_out, by rw [hE9, hO9, hxs], by rw [hO9, hxs]; exact (own_caps O_out).1, fun W' hk => by rw [hO9]; have h := own_C (d := dO) (own_keep O_out hk (fun _ _ h => h)) (F_out W' ((K_s9.mono (fun k h => by have h : k = u1 ∨ OB A_out k := h; rcases h with h | h; exact .inr h; exact .inl h)).then_ hk (fun _ h => h.elim))) hxs; rw [hxs]; exact h, K_0⟩
end Go.Proofs.Ytgpclehnomkbmaa.Re
