/- Package control: the codes' forms. -/
import Derived.Test.YtndiddfleidnaaaOsm
set_option maxRecDepth 100000
set_option linter.unusedVariables false
set_option linter.unusedSimpArgs false
namespace Go.Proofs.Ytndiddfleidnaaa.Ct
open Go.RowKit Go.Proofs.YtndiddfleidnaaaW.PrintWords Go.Proofs.Ytndiddfleidnaaa.Ds Go.Proofs.Ytndiddfleidnaaa.Op Go.Proofs.Ytndiddfleidnaaa.Os
open Go.Proofs.Ytndiddfleidnaaa.Pk (Kp fitsF spanF putF digF fits_any put_ok put_bd C_take)
theorem R139_0_l : List.range (regOf Try.f139 0).size = [0] := by kernel_rfl
theorem R139_1_l : List.range (regOf Try.f139 1).size = [0, 1, 2, 3, 4, 5, 6, 7, 8, 9] := by kernel_rfl
theorem body139 : Try.f139.body = some (.seq (.region 0 (regOf Try.f139 0) false) (.seq (.region 1 (regOf Try.f139 1) false) (.ret))) := by kernel_rfl
theorem p139_0_0 : pj (regOf Try.f139 0) 0 = some (some 0, .assign (.const (.slice none 0 0)), 213, none) := by kernel_rfl
theorem p139_1_0 : pj (regOf Try.f139 1) 0 = some (some 1, .buildSlice 62 3 #[(0, .const (.int .i64 0)), (1, .const (.int .i64 1)), (2, .const (.int .i64 7))], 62, none) := by kernel_rfl
theorem p139_1_1 : pj (regOf Try.f139 1) 1 = some (some 2, .build 165 #[(0, .const (.string { data := #[100, 105, 115] })), (1, .tmp 1)], 165, none) := by kernel_rfl
theorem p139_1_2 : pj (regOf Try.f139 1) 2 = some (some 3, .buildSlice 62 6 #[(0, .const (.int .i64 0)), (1, .const (.int .i64 1)), (2, .const (.int .i64 2)), (3, .const (.int .i64 3)), (4, .const (.int .i64 4)), (5, .const (.int .i64 8))], 62, none) := by kernel_rfl
theorem p139_1_3 : pj (regOf Try.f139 1) 3 = some (some 4, .build 165 #[(0, .const (.string { data := #[100, 105, 111] })), (1, .tmp 3)], 165, none) := by kernel_rfl
theorem p139_1_4 : pj (regOf Try.f139 1) 4 = some (some 5, .buildSlice 62 5 #[(0, .const (.int .i64 0)), (1, .const (.int .i64 1)), (2, .const (.int .i64 5)), (3, .const (.int .i64 6)), (4, .const (.int .i64 9))], 62, none) := by kernel_rfl
theorem p139_1_5 : pj (regOf Try.f139 1) 5 = some (some 6, .build 165 #[(0, .const (.string { data := #[100, 97, 111] })), (1, .tmp 5)], 165, none) := by kernel_rfl
theorem p139_1_6 : pj (regOf Try.f139 1) 6 = some (some 7, .buildSlice 62 2 #[(0, .const (.int .i64 0)), (1, .const (.int .i64 1))], 62, none) := by kernel_rfl
theorem p139_1_7 : pj (regOf Try.f139 1) 7 = some (some 8, .build 165 #[(0, .const (.string { data := #[97, 99, 107] })), (1, .tmp 7)], 165, none) := by kernel_rfl
theorem p139_1_8 : pj (regOf Try.f139 1) 8 = some (some 9, .buildSlice 213 4 #[(0, .tmp 2), (1, .tmp 4), (2, .tmp 6), (3, .tmp 8)], 213, none) := by kernel_rfl
theorem p139_1_9 : pj (regOf Try.f139 1) 9 = some (some 0, .assign (.tmp 9), 213, none) := by kernel_rfl
set_option maxHeartbeats 4000000 in
theorem cforms_ok (w : World) : Calls Try.prog 139 #[] w fun e w' => ∃ h0 h1 h2 h3 h4 : Nat, e = .returned (Value.slice (some ⟨h4, 0, none⟩) 4 4) ∧ w.heap.size ≤ h0 ∧ w'.heap[h0]? = some (.cells #[Value.int .i64 0, Value.int .i64 1, Value.int .i64 7] 3 (0, 0)) ∧ w.heap.size ≤ h1 ∧ w'.heap[h1]? = some (.cells #[Value.int .i64 0, Value.int .i64 1, Value.int .i64 2, Value.int .i64 3, Value.int .i64 4, Value.int .i64 8] 3 (0, 0)) ∧ w.heap.size ≤ h2 ∧ w'.heap[h2]? = some (.cells #[Value.int .i64 0, Value.int .i64 1, Value.int .i64 5, Value.int .i64 6, Value.int .i64 9] 3 (0, 0)) ∧ w.heap.size ≤ h3 ∧ w'.heap[h3]? = some (.cells #[Value.int .i64 0, Value.int .i64 1] 3 (0, 0)) ∧ w.heap.size ≤ h4 ∧ w'.heap[h4]? = some (.cells #[(Value.string { data := #[100, 105, 115] }), Value.slice (some ⟨h0, 0, none⟩) 3 3, (Value.string { data := #[100, 105, 111] }), Value.slice (some ⟨h1, 0, none⟩) 6 6, (Value.string { data := #[100, 97, 111] }), Value.slice (some ⟨h2, 0, none⟩) 5 5, (Value.string { data := #[97, 99, 107] }), Value.slice (some ⟨h3, 0, none⟩) 2 2] 165 (0, 0)) ∧ Kp w w' (fun _ => False) := by
  have K_0 := Kp.refl w (fun _ => False)
  refine enter (args := []) (n := 10) Try.func139 body139 rfl rfl rfl ?_
  intro a hE
  refine c_reg R139_0_l ?_
  refine q0 p139_0_0 hE (st_assign rfl) ?_
  clear hE a; intro a hE
  refine p_nil ?_
  refine x_norm ?_
  refine c_reg R139_1_l ?_
  refine p_cons (s_row (xs := [(0, Operand.const (Value.int IntKind.i64 0)), (1, Operand.const (Value.int IntKind.i64 1)), (2, Operand.const (Value.int IntKind.i64 7))]) (vs := [(0, Value.int .i64 0), (1, Value.int .i64 1), (2, Value.int .i64 7)]) (cs := #[Value.int .i64 0, Value.int .i64 1, Value.int .i64 7]) p139_1_0 hE wn_none rfl Try.underlying62 rfl (by kernel_rfl) ?_)
  clear hE a; intro g1 w2 z3 B_g1 hk a hE
  have z_0_g1 := Nat.le_trans K_0.kept.1 z3
  replace K_0 := K_0.then_ hk (fun _ h => h.elim)
  clear hk
  refine q0 p139_1_1 hE (st_build (xs := [(0, Operand.const (Value.string { data := #[100, 105, 115] })), (1, Operand.tmp 1)]) (vs := [(0, (Value.string { data := #[100, 105, 115] })), (1, Value.slice (some ⟨g1, 0, none⟩) 3 3)]) (cs := #[(Value.string { data := #[100, 105, 115] }), Value.slice (some ⟨g1, 0, none⟩) 3 3]) rfl (by kernel_rfl)) ?_
  clear hE a; intro a hE
  refine p_cons (s_row (xs := [(0, Operand.const (Value.int IntKind.i64 0)), (1, Operand.const (Value.int IntKind.i64 1)), (2, Operand.const (Value.int IntKind.i64 2)), (3, Operand.const (Value.int IntKind.i64 3)), (4, Operand.const (Value.int IntKind.i64 4)), (5, Operand.const (Value.int IntKind.i64 8))]) (vs := [(0, Value.int .i64 0), (1, Value.int .i64 1), (2, Value.int .i64 2), (3, Value.int .i64 3), (4, Value.int .i64 4), (5, Value.int .i64 8)]) (cs := #[Value.int .i64 0, Value.int .i64 1, Value.int .i64 2, Value.int .i64 3, Value.int .i64 4, Value.int .i64 8]) p139_1_2 hE wn_none rfl Try.underlying62 rfl (by kernel_rfl) ?_)
  clear hE a; intro g4 w5 z6 B_g4 hk a hE
  have n_g1_g4 : g1 ≠ g4 := ne_new B_g1 z6
  have z_0_g4 := Nat.le_trans K_0.kept.1 z6
  replace B_g1 := kp_blk B_g1 hk (fun h => h)
  replace K_0 := K_0.then_ hk (fun _ h => h.elim)
  clear hk
  refine q0 p139_1_3 hE (st_build (xs := [(0, Operand.const (Value.string { data := #[100, 105, 111] })), (1, Operand.tmp 3)]) (vs := [(0, (Value.string { data := #[100, 105, 111] })), (1, Value.slice (some ⟨g4, 0, none⟩) 6 6)]) (cs := #[(Value.string { data := #[100, 105, 111] }), Value.slice (some ⟨g4, 0, none⟩) 6 6]) rfl (by kernel_rfl)) ?_
  clear hE a; intro a hE
  refine p_cons (s_row (xs := [(0, Operand.const (Value.int IntKind.i64 0)), (1, Operand.const (Value.int IntKind.i64 1)), (2, Operand.const (Value.int IntKind.i64 5)), (3, Operand.const (Value.int IntKind.i64 6)), (4, Operand.const (Value.int IntKind.i64 9))]) (vs := [(0, Value.int .i64 0), (1, Value.int .i64 1), (2, Value.int .i64 5), (3, Value.int .i64 6), (4, Value.int .i64 9)]) (cs := #[Value.int .i64 0, Value.int .i64 1, Value.int .i64 5, Value.int .i64 6, Value.int .i64 9]) p139_1_4 hE wn_none rfl Try.underlying62 rfl (by kernel_rfl) ?_)
  clear hE a; intro g7 w8 z9 B_g7 hk a hE
  have n_g1_g7 : g1 ≠ g7 := ne_new B_g1 z9
  have n_g4_g7 : g4 ≠ g7 := ne_new B_g4 z9
  have z_0_g7 := Nat.le_trans K_0.kept.1 z9
  replace B_g1 := kp_blk B_g1 hk (fun h => h)
  replace B_g4 := kp_blk B_g4 hk (fun h => h)
  replace K_0 := K_0.then_ hk (fun _ h => h.elim)
  clear hk
  refine q0 p139_1_5 hE (st_build (xs := [(0, Operand.const (Value.string { data := #[100, 97, 111] })), (1, Operand.tmp 5)]) (vs := [(0, (Value.string { data := #[100, 97, 111] })), (1, Value.slice (some ⟨g7, 0, none⟩) 5 5)]) (cs := #[(Value.string { data := #[100, 97, 111] }), Value.slice (some ⟨g7, 0, none⟩) 5 5]) rfl (by kernel_rfl)) ?_
  clear hE a; intro a hE
  refine p_cons (s_row (xs := [(0, Operand.const (Value.int IntKind.i64 0)), (1, Operand.const (Value.int IntKind.i64 1))]) (vs := [(0, Value.int .i64 0), (1, Value.int .i64 1)]) (cs := #[Value.int .i64 0, Value.int .i64 1]) p139_1_6 hE wn_none rfl Try.underlying62 rfl (by kernel_rfl) ?_)
  clear hE a; intro g10 w11 z12 B_g10 hk a hE
  have n_g1_g10 : g1 ≠ g10 := ne_new B_g1 z12
  have n_g4_g10 : g4 ≠ g10 := ne_new B_g4 z12
  have n_g7_g10 : g7 ≠ g10 := ne_new B_g7 z12
  have z_0_g10 := Nat.le_trans K_0.kept.1 z12
  replace B_g1 := kp_blk B_g1 hk (fun h => h)
  replace B_g4 := kp_blk B_g4 hk (fun h => h)
  replace B_g7 := kp_blk B_g7 hk (fun h => h)
  replace K_0 := K_0.then_ hk (fun _ h => h.elim)
  clear hk
  refine q0 p139_1_7 hE (st_build (xs := [(0, Operand.const (Value.string { data := #[97, 99, 107] })), (1, Operand.tmp 7)]) (vs := [(0, (Value.string { data := #[97, 99, 107] })), (1, Value.slice (some ⟨g10, 0, none⟩) 2 2)]) (cs := #[(Value.string { data := #[97, 99, 107] }), Value.slice (some ⟨g10, 0, none⟩) 2 2]) rfl (by kernel_rfl)) ?_
  clear hE a; intro a hE
  refine p_cons (s_row (xs := [(0, Operand.tmp 2), (1, Operand.tmp 4), (2, Operand.tmp 6), (3, Operand.tmp 8)]) (vs := [(0, Value.agg #[(Value.string { data := #[100, 105, 115] }), Value.slice (some ⟨g1, 0, none⟩) 3 3]), (1, Value.agg #[(Value.string { data := #[100, 105, 111] }), Value.slice (some ⟨g4, 0, none⟩) 6 6]), (2, Value.agg #[(Value.string { data := #[100, 97, 111] }), Value.slice (some ⟨g7, 0, none⟩) 5 5]), (3, Value.agg #[(Value.string { data := #[97, 99, 107] }), Value.slice (some ⟨g10, 0, none⟩) 2 2])]) (cs := #[(Value.string { data := #[100, 105, 115] }), Value.slice (some ⟨g1, 0, none⟩) 3 3, (Value.string { data := #[100, 105, 111] }), Value.slice (some ⟨g4, 0, none⟩) 6 6, (Value.string { data := #[100, 97, 111] }), Value.slice (some ⟨g7, 0, none⟩) 5 5, (Value.string { data := #[97, 99, 107] }), Value.slice (some ⟨g10, 0, none⟩) 2 2]) p139_1_8 hE wn_none rfl Try.underlying213 rfl (by kernel_rfl) ?_)
  clear hE a; intro g13 w14 z15 B_g13 hk a hE
  have n_g1_g13 : g1 ≠ g13 := ne_new B_g1 z15
  have n_g4_g13 : g4 ≠ g13 := ne_new B_g4 z15
  have n_g7_g13 : g7 ≠ g13 := ne_new B_g7 z15
  have n_g10_g13 : g10 ≠ g13 := ne_new B_g10 z15
  have z_0_g13 := Nat.le_trans K_0.kept.1 z15
  replace B_g1 := kp_blk B_g1 hk (fun h => h)
  replace B_g4 := kp_blk B_g4 hk (fun h => h)
  replace B_g7 := kp_blk B_g7 hk (fun h => h)
  replace B_g10 := kp_blk B_g10 hk (fun h => h)
  replace K_0 := K_0.then_ hk (fun _ h => h.elim)
  clear hk
  refine q0 p139_1_9 hE (st_assign rfl) ?_
  clear hE a; intro a hE
  refine p_nil ?_
  refine x_norm ?_
  refine wp_ret ?_
  refine ret_one (v := Value.slice (some ⟨g13, 0, none⟩) 4 4) rfl hE (.tmp rfl .nil) ?_
  exact ⟨g1, g4, g7, g10, g13, rfl, z_0_g1, B_g1, z_0_g4, B_g4, z_0_g7, B_g7, z_0_g10, B_g10, z_0_g13, B_g13, K_0⟩
theorem R97_0_l : List.range (regOf Try.f97 0).size = [0, 1] := by kernel_rfl
theorem R97_1_l : List.range (regOf Try.f97 1).size = [0, 1] := by kernel_rfl
theorem R97_2_l : List.range (regOf Try.f97 2).size = [0, 1, 2, 3, 4, 5, 6, 7] := by kernel_rfl
theorem R97_3_l : List.range (regOf Try.f97 3).size = [0, 1, 2] := by kernel_rfl
theorem R97_4_l : List.range (regOf Try.f97 4).size = [0, 1, 2, 3, 4, 5] := by kernel_rfl
theorem body97 : Try.f97.body = some (.seq (.region 0 (regOf Try.f97 0) false) (.seq (.region 1 (regOf Try.f97 1) false) (.seq (.seq (.region 2 (regOf Try.f97 2) false) (.cond (Operand.tmp 13) (.seq (.region 3 (regOf Try.f97 3) false) (.ret)) (.skip))) (.seq (.region 4 (regOf Try.f97 4) false) (.ret))))) := by kernel_rfl
theorem p97_0_0 : pj (regOf Try.f97 0) 0 = some (some 2, .alloc 165, 0, none) := by kernel_rfl
theorem tZ165 : (Try.prog.info? 165).bind (·.zero) = some (Value.agg #[Value.string ByteArray.empty, Value.slice none 0 0]) := by kernel_rfl
theorem p97_0_1 : pj (regOf Try.f97 0) 1 = some (some 3, .assign (.const (.bool false)), 4, none) := by kernel_rfl
theorem p97_1_0 : pj (regOf Try.f97 1) 0 = some (some 5, .call { callee := .value (.func 139), args := #[], argTypes := #[] }, 213, none) := by kernel_rfl
theorem cl139 : callable Try.f139 = true := by kernel_rfl
theorem p97_1_1 : pj (regOf Try.f97 1) 1 = some (some 4, .assign (.tmp 5), 213, none) := by kernel_rfl
theorem p97_2_0 : pj (regOf Try.f97 2) 0 = some (some 6, .move (.tmp 0), 3, none) := by kernel_rfl
theorem p97_2_1 : pj (regOf Try.f97 2) 1 = some (some 7, .binOp .lss 3 (.tmp 6) (.const (.int .i64 0)) 3, 4, none) := by kernel_rfl
theorem p97_2_2 : pj (regOf Try.f97 2) 2 = some (some 8, .move (.tmp 7), 4, none) := by kernel_rfl
theorem p97_2_3 : pj (regOf Try.f97 2) 3 = some (some 9, .move (.tmp 0), 3, some (2, false)) := by kernel_rfl
theorem g97_2_2 : dstOf (regOf Try.f97 2) 2 = some 8 := by kernel_rfl
theorem p97_2_4 : pj (regOf Try.f97 2) 4 = some (some 10, .move (.tmp 4), 213, some (2, false)) := by kernel_rfl
theorem p97_2_5 : pj (regOf Try.f97 2) 5 = some (some 11, .call { callee := .builtin .len, args := #[.tmp 10], argTypes := #[213] }, 3, some (2, false)) := by kernel_rfl
theorem p97_2_6 : pj (regOf Try.f97 2) 6 = some (some 12, .binOp .geq 3 (.tmp 9) (.tmp 11) 3, 4, some (2, false)) := by kernel_rfl
theorem p97_2_7 : pj (regOf Try.f97 2) 7 = some (some 13, .pick (.tmp 8) (.const (.bool true)) (.tmp 12), 4, none) := by kernel_rfl
theorem p97_4_0 : pj (regOf Try.f97 4) 0 = some (some 15, .move (.tmp 4), 213, none) := by kernel_rfl
theorem p97_4_1 : pj (regOf Try.f97 4) 1 = some (some 16, .move (.tmp 0), 3, none) := by kernel_rfl
theorem p97_4_2 : pj (regOf Try.f97 4) 2 = some (some 17, .indexAddr 213 (.tmp 15) (.tmp 16), 0, none) := by kernel_rfl
theorem tS165 : (Try.prog.info? 165).map (·.size) = some 2 := by kernel_rfl
theorem p97_4_3 : pj (regOf Try.f97 4) 3 = some (some 18, .load 165 (.tmp 17), 165, none) := by kernel_rfl
theorem tA165 : (Try.prog.underlying 165).map aggD = some true := by kernel_rfl
theorem p97_4_4 : pj (regOf Try.f97 4) 4 = some (none, .store 165 (.tmp 2) (.tmp 18), 0, none) := by kernel_rfl
theorem p97_4_5 : pj (regOf Try.f97 4) 5 = some (some 3, .assign (.const (.bool true)), 4, none) := by kernel_rfl
set_option maxHeartbeats 4000000 in
theorem cof_0 (w : World) : Calls Try.prog 97 #[.int .i64 0] w fun e w' => ∃ A c, e = .returned (.tuple #[Value.agg #[(Value.string { data := #[100, 105, 115] }), Value.slice A 3 c], .bool true]) ∧ (∀ W', Kp w' W' (fun _ => False) → Kd.C (Kd.int .i64) W' A 3 [0, 1, 7]) ∧ 3 ≤ c ∧ Kp w w' (fun _ => False) := by
  have K_0 := Kp.refl w (fun _ => False)
  refine enter (args := [Value.int .i64 0]) (n := 19) Try.func97 body97 rfl rfl rfl ?_
  intro a hE
  refine c_reg R97_0_l ?_
  refine p_cons (s_alloc p97_0_0 hE wn_none rfl tZ165 ?_)
  clear hE a; intro g1 w2 z3 B_g1 hk a hE
  replace B_g1 : w2.heap[g1]? = some (.cells #[Value.string ByteArray.empty, Value.slice none 0 0] 165 (0, 0)) := B_g1
  have z_0_g1 := Nat.le_trans K_0.kept.1 z3
  replace K_0 := K_0.then_ hk (fun _ h => h.elim)
  clear hk
  refine q0 p97_0_1 hE (st_assign rfl) ?_
  clear hE a; intro a hE
  refine p_nil ?_
  refine x_norm ?_
  refine c_reg R97_1_l ?_
  refine p_cons (s_call (xs := []) (args := []) p97_1_0 hE wn_none rfl rfl Try.func139 cl139 (cforms_ok _) ?_)
  rintro e w4 ⟨h0, h1, h2, h3, h4, rfl, zh0, B_h0, zh1, B_h1, zh2, B_h2, zh3, B_h3, zh4, B_h4, hk⟩
  have n_g1_h0 : g1 ≠ h0 := ne_new B_g1 zh0
  have z_0_h0 := Nat.le_trans K_0.kept.1 zh0
  have n_g1_h1 : g1 ≠ h1 := ne_new B_g1 zh1
  have z_0_h1 := Nat.le_trans K_0.kept.1 zh1
  have n_g1_h2 : g1 ≠ h2 := ne_new B_g1 zh2
  have z_0_h2 := Nat.le_trans K_0.kept.1 zh2
  have n_g1_h3 : g1 ≠ h3 := ne_new B_g1 zh3
  have z_0_h3 := Nat.le_trans K_0.kept.1 zh3
  have n_g1_h4 : g1 ≠ h4 := ne_new B_g1 zh4
  have z_0_h4 := Nat.le_trans K_0.kept.1 zh4
  replace B_g1 := kp_blk B_g1 hk (fun h => h)
  replace K_0 := K_0.then_ hk (fun _ h => h.elim)
  refine ⟨_, rfl, ?_⟩
  clear hE a; intro a hE
  refine q0 p97_1_1 hE (st_assign rfl) ?_
  clear hE a; intro a hE
  refine p_nil ?_
  refine x_norm ?_
  refine wp_seq ?_
  refine c_reg R97_2_l ?_
  refine q0 p97_2_0 hE (st_move rfl) ?_
  clear hE a; intro a hE
  refine q0 p97_2_1 hE (st_lss (b := false) rfl rfl (by decide)) ?_
  clear hE a; intro a hE
  refine q0 p97_2_2 hE (st_move rfl) ?_
  clear hE a; intro a hE
  refine p_cons (s_still p97_2_3 hE (wn_some g97_2_2 rfl rfl) rfl (st_move rfl) ?_)
  clear hE a; intro a hE
  refine p_cons (s_still p97_2_4 hE (wn_some g97_2_2 rfl rfl) rfl (st_move rfl) ?_)
  clear hE a; intro a hE
  refine p_cons (s_still p97_2_5 hE (wn_some g97_2_2 rfl rfl) rfl (st_len Try.underlying213 rfl) ?_)
  clear hE a; intro a hE
  refine p_cons (s_still p97_2_6 hE (wn_some g97_2_2 rfl rfl) rfl (st_geq (b := false) rfl rfl (by decide)) ?_)
  clear hE a; intro a hE
  refine q0 p97_2_7 hE (st_pick rfl rfl) ?_
  clear hE a; intro a hE
  refine p_nil ?_
  refine x_norm ?_
  refine c_cond (t := false) hE rfl ?_
  refine wp_skip ?_
  refine x_norm ?_
  refine c_reg R97_4_l ?_
  refine q0 p97_4_0 hE (st_move rfl) ?_
  clear hE a; intro a hE
  refine q0 p97_4_1 hE (st_move rfl) ?_
  clear hE a; intro a hE
  refine q0 p97_4_2 hE (st_indexAddr (i := 0) Try.underlying213 tS165 rfl rfl (by decide) rfl) ?_
  clear hE a; intro a hE
  refine q0 p97_4_3 hE (st_loadN (off := 0) (k := 2) (vs := [(Value.string { data := #[100, 105, 115] }), Value.slice (some ⟨h0, 0, none⟩) 3 3]) tA165 tS165 rfl B_h4 rfl rfl) ?_
  clear hE a; intro a hE
  refine p_cons (s_store (off := 0) (k := 2) (cs' := #[(Value.string { data := #[100, 105, 115] }), Value.slice (some ⟨h0, 0, none⟩) 3 3]) p97_4_4 hE wn_none tS165 rfl rfl rfl rfl B_g1 (Nat.le_of_ble_eq_true rfl) rfl ?_)
  intro w5 B_g1' hk
  replace B_h0 := kp_blk B_h0 hk (Ne.symm n_g1_h0)
  replace B_h1 := kp_blk B_h1 hk (Ne.symm n_g1_h1)
  replace B_h2 := kp_blk B_h2 hk (Ne.symm n_g1_h2)
  replace B_h3 := kp_blk B_h3 hk (Ne.symm n_g1_h3)
  replace B_h4 := kp_blk B_h4 hk (Ne.symm n_g1_h4)
  replace K_0 := K_0.then_ hk (fun k h => by rw [show k = g1 from h]; exact Or.inr z_0_g1)
  replace B_g1 := B_g1'
  clear hk
  refine q0 p97_4_5 hE (st_assign rfl) ?_
  clear hE a; intro a hE
  refine p_nil ?_
  refine x_norm ?_
  refine wp_ret ?_
  refine ret_list (rs := [.cell 2 165, .tmp 3]) (vs := [Value.agg #[(Value.string { data := #[100, 105, 115] }), Value.slice (some ⟨h0, 0, none⟩) 3 3], Value.bool true]) rfl hE (.cellN (us := [(Value.string { data := #[100, 105, 115] }), Value.slice (some ⟨h0, 0, none⟩) 3 3]) tA165 tS165 rfl B_g1 rfl (.tmp rfl .nil)) rfl ?_
  exact ⟨_, _, rfl, fun W' hk => C_blk (k := .i64) (l := [0, 1, 7]) (kp_blk B_h0 hk (fun h => h)) ⟨rfl, Nat.le_of_ble_eq_true rfl⟩ rfl, Nat.le_refl _, K_0⟩

set_option maxHeartbeats 4000000 in
theorem cof_1 (w : World) : Calls Try.prog 97 #[.int .i64 1] w fun e w' => ∃ A c, e = .returned (.tuple #[Value.agg #[(Value.string { data := #[100, 105, 111] }), Value.slice A 6 c], .bool true]) ∧ (∀ W', Kp w' W' (fun _ => False) → Kd.C (Kd.int .i64) W' A 6 [0, 1, 2, 3, 4, 8]) ∧ 6 ≤ c ∧ Kp w w' (fun _ => False) := by
  have K_0 := Kp.refl w (fun _ => False)
  refine enter (args := [Value.int .i64 1]) (n := 19) Try.func97 body97 rfl rfl rfl ?_
  intro a hE
  refine c_reg R97_0_l ?_
  refine p_cons (s_alloc p97_0_0 hE wn_none rfl tZ165 ?_)
  clear hE a; intro g1 w2 z3 B_g1 hk a hE
  replace B_g1 : w2.heap[g1]? = some (.cells #[Value.string ByteArray.empty, Value.slice none 0 0] 165 (0, 0)) := B_g1
  have z_0_g1 := Nat.le_trans K_0.kept.1 z3
  replace K_0 := K_0.then_ hk (fun _ h => h.elim)
  clear hk
  refine q0 p97_0_1 hE (st_assign rfl) ?_
  clear hE a; intro a hE
  refine p_nil ?_
  refine x_norm ?_
  refine c_reg R97_1_l ?_
  refine p_cons (s_call (xs := []) (args := []) p97_1_0 hE wn_none rfl rfl Try.func139 cl139 (cforms_ok _) ?_)
  rintro e w4 ⟨h0, h1, h2, h3, h4, rfl, zh0, B_h0, zh1, B_h1, zh2, B_h2, zh3, B_h3, zh4, B_h4, hk⟩
  have n_g1_h0 : g1 ≠ h0 := ne_new B_g1 zh0
  have z_0_h0 := Nat.le_trans K_0.kept.1 zh0
  have n_g1_h1 : g1 ≠ h1 := ne_new B_g1 zh1
  have z_0_h1 := Nat.le_trans K_0.kept.1 zh1
  have n_g1_h2 : g1 ≠ h2 := ne_new B_g1 zh2
  have z_0_h2 := Nat.le_trans K_0.kept.1 zh2
  have n_g1_h3 : g1 ≠ h3 := ne_new B_g1 zh3
  have z_0_h3 := Nat.le_trans K_0.kept.1 zh3
  have n_g1_h4 : g1 ≠ h4 := ne_new B_g1 zh4
  have z_0_h4 := Nat.le_trans K_0.kept.1 zh4
  replace B_g1 := kp_blk B_g1 hk (fun h => h)
  replace K_0 := K_0.then_ hk (fun _ h => h.elim)
  refine ⟨_, rfl, ?_⟩
  clear hE a; intro a hE
  refine q0 p97_1_1 hE (st_assign rfl) ?_
  clear hE a; intro a hE
  refine p_nil ?_
  refine x_norm ?_
  refine wp_seq ?_
  refine c_reg R97_2_l ?_
  refine q0 p97_2_0 hE (st_move rfl) ?_
  clear hE a; intro a hE
  refine q0 p97_2_1 hE (st_lss (b := false) rfl rfl (by decide)) ?_
  clear hE a; intro a hE
  refine q0 p97_2_2 hE (st_move rfl) ?_
  clear hE a; intro a hE
  refine p_cons (s_still p97_2_3 hE (wn_some g97_2_2 rfl rfl) rfl (st_move rfl) ?_)
  clear hE a; intro a hE
  refine p_cons (s_still p97_2_4 hE (wn_some g97_2_2 rfl rfl) rfl (st_move rfl) ?_)
  clear hE a; intro a hE
  refine p_cons (s_still p97_2_5 hE (wn_some g97_2_2 rfl rfl) rfl (st_len Try.underlying213 rfl) ?_)
  clear hE a; intro a hE
  refine p_cons (s_still p97_2_6 hE (wn_some g97_2_2 rfl rfl) rfl (st_geq (b := false) rfl rfl (by decide)) ?_)
  clear hE a; intro a hE
  refine q0 p97_2_7 hE (st_pick rfl rfl) ?_
  clear hE a; intro a hE
  refine p_nil ?_
  refine x_norm ?_
  refine c_cond (t := false) hE rfl ?_
  refine wp_skip ?_
  refine x_norm ?_
  refine c_reg R97_4_l ?_
  refine q0 p97_4_0 hE (st_move rfl) ?_
  clear hE a; intro a hE
  refine q0 p97_4_1 hE (st_move rfl) ?_
  clear hE a; intro a hE
  refine q0 p97_4_2 hE (st_indexAddr (i := 1) Try.underlying213 tS165 rfl rfl (by decide) rfl) ?_
  clear hE a; intro a hE
  refine q0 p97_4_3 hE (st_loadN (off := 2) (k := 2) (vs := [(Value.string { data := #[100, 105, 111] }), Value.slice (some ⟨h1, 0, none⟩) 6 6]) tA165 tS165 rfl B_h4 rfl rfl) ?_
  clear hE a; intro a hE
  refine p_cons (s_store (off := 0) (k := 2) (cs' := #[(Value.string { data := #[100, 105, 111] }), Value.slice (some ⟨h1, 0, none⟩) 6 6]) p97_4_4 hE wn_none tS165 rfl rfl rfl rfl B_g1 (Nat.le_of_ble_eq_true rfl) rfl ?_)
  intro w5 B_g1' hk
  replace B_h0 := kp_blk B_h0 hk (Ne.symm n_g1_h0)
  replace B_h1 := kp_blk B_h1 hk (Ne.symm n_g1_h1)
  replace B_h2 := kp_blk B_h2 hk (Ne.symm n_g1_h2)
  replace B_h3 := kp_blk B_h3 hk (Ne.symm n_g1_h3)
  replace B_h4 := kp_blk B_h4 hk (Ne.symm n_g1_h4)
  replace K_0 := K_0.then_ hk (fun k h => by rw [show k = g1 from h]; exact Or.inr z_0_g1)
  replace B_g1 := B_g1'
  clear hk
  refine q0 p97_4_5 hE (st_assign rfl) ?_
  clear hE a; intro a hE
  refine p_nil ?_
  refine x_norm ?_
  refine wp_ret ?_
  refine ret_list (rs := [.cell 2 165, .tmp 3]) (vs := [Value.agg #[(Value.string { data := #[100, 105, 111] }), Value.slice (some ⟨h1, 0, none⟩) 6 6], Value.bool true]) rfl hE (.cellN (us := [(Value.string { data := #[100, 105, 111] }), Value.slice (some ⟨h1, 0, none⟩) 6 6]) tA165 tS165 rfl B_g1 rfl (.tmp rfl .nil)) rfl ?_
  exact ⟨_, _, rfl, fun W' hk => C_blk (k := .i64) (l := [0, 1, 2, 3, 4, 8]) (kp_blk B_h1 hk (fun h => h)) ⟨rfl, Nat.le_of_ble_eq_true rfl⟩ rfl, Nat.le_refl _, K_0⟩

set_option maxHeartbeats 4000000 in
theorem cof_2 (w : World) : Calls Try.prog 97 #[.int .i64 2] w fun e w' => ∃ A c, e = .returned (.tuple #[Value.agg #[(Value.string { data := #[100, 97, 111] }), Value.slice A 5 c], .bool true]) ∧ (∀ W', Kp w' W' (fun _ => False) → Kd.C (Kd.int .i64) W' A 5 [0, 1, 5, 6, 9]) ∧ 5 ≤ c ∧ Kp w w' (fun _ => False) := by
  have K_0 := Kp.refl w (fun _ => False)
  refine enter (args := [Value.int .i64 2]) (n := 19) Try.func97 body97 rfl rfl rfl ?_
  intro a hE
  refine c_reg R97_0_l ?_
  refine p_cons (s_alloc p97_0_0 hE wn_none rfl tZ165 ?_)
  clear hE a; intro g1 w2 z3 B_g1 hk a hE
  replace B_g1 : w2.heap[g1]? = some (.cells #[Value.string ByteArray.empty, Value.slice none 0 0] 165 (0, 0)) := B_g1
  have z_0_g1 := Nat.le_trans K_0.kept.1 z3
  replace K_0 := K_0.then_ hk (fun _ h => h.elim)
  clear hk
  refine q0 p97_0_1 hE (st_assign rfl) ?_
  clear hE a; intro a hE
  refine p_nil ?_
  refine x_norm ?_
  refine c_reg R97_1_l ?_
  refine p_cons (s_call (xs := []) (args := []) p97_1_0 hE wn_none rfl rfl Try.func139 cl139 (cforms_ok _) ?_)
  rintro e w4 ⟨h0, h1, h2, h3, h4, rfl, zh0, B_h0, zh1, B_h1, zh2, B_h2, zh3, B_h3, zh4, B_h4, hk⟩
  have n_g1_h0 : g1 ≠ h0 := ne_new B_g1 zh0
  have z_0_h0 := Nat.le_trans K_0.kept.1 zh0
  have n_g1_h1 : g1 ≠ h1 := ne_new B_g1 zh1
  have z_0_h1 := Nat.le_trans K_0.kept.1 zh1
  have n_g1_h2 : g1 ≠ h2 := ne_new B_g1 zh2
  have z_0_h2 := Nat.le_trans K_0.kept.1 zh2
  have n_g1_h3 : g1 ≠ h3 := ne_new B_g1 zh3
  have z_0_h3 := Nat.le_trans K_0.kept.1 zh3
  have n_g1_h4 : g1 ≠ h4 := ne_new B_g1 zh4
  have z_0_h4 := Nat.le_trans K_0.kept.1 zh4
  replace B_g1 := kp_blk B_g1 hk (fun h => h)
  replace K_0 := K_0.then_ hk (fun _ h => h.elim)
  refine ⟨_, rfl, ?_⟩
  clear hE a; intro a hE
  refine q0 p97_1_1 hE (st_assign rfl) ?_
  clear hE a; intro a hE
  refine p_nil ?_
  refine x_norm ?_
  refine wp_seq ?_
  refine c_reg R97_2_l ?_
  refine q0 p97_2_0 hE (st_move rfl) ?_
  clear hE a; intro a hE
  refine q0 p97_2_1 hE (st_lss (b := false) rfl rfl (by decide)) ?_
  clear hE a; intro a hE
  refine q0 p97_2_2 hE (st_move rfl) ?_
  clear hE a; intro a hE
  refine p_cons (s_still p97_2_3 hE (wn_some g97_2_2 rfl rfl) rfl (st_move rfl) ?_)
  clear hE a; intro a hE
  refine p_cons (s_still p97_2_4 hE (wn_some g97_2_2 rfl rfl) rfl (st_move rfl) ?_)
  clear hE a; intro a hE
  refine p_cons (s_still p97_2_5 hE (wn_some g97_2_2 rfl rfl) rfl (st_len Try.underlying213 rfl) ?_)
  clear hE a; intro a hE
  refine p_cons (s_still p97_2_6 hE (wn_some g97_2_2 rfl rfl) rfl (st_geq (b := false) rfl rfl (by decide)) ?_)
  clear hE a; intro a hE
  refine q0 p97_2_7 hE (st_pick rfl rfl) ?_
  clear hE a; intro a hE
  refine p_nil ?_
  refine x_norm ?_
  refine c_cond (t := false) hE rfl ?_
  refine wp_skip ?_
  refine x_norm ?_
  refine c_reg R97_4_l ?_
  refine q0 p97_4_0 hE (st_move rfl) ?_
  clear hE a; intro a hE
  refine q0 p97_4_1 hE (st_move rfl) ?_
  clear hE a; intro a hE
  refine q0 p97_4_2 hE (st_indexAddr (i := 2) Try.underlying213 tS165 rfl rfl (by decide) rfl) ?_
  clear hE a; intro a hE
  refine q0 p97_4_3 hE (st_loadN (off := 4) (k := 2) (vs := [(Value.string { data := #[100, 97, 111] }), Value.slice (some ⟨h2, 0, none⟩) 5 5]) tA165 tS165 rfl B_h4 rfl rfl) ?_
  clear hE a; intro a hE
  refine p_cons (s_store (off := 0) (k := 2) (cs' := #[(Value.string { data := #[100, 97, 111] }), Value.slice (some ⟨h2, 0, none⟩) 5 5]) p97_4_4 hE wn_none tS165 rfl rfl rfl rfl B_g1 (Nat.le_of_ble_eq_true rfl) rfl ?_)
  intro w5 B_g1' hk
  replace B_h0 := kp_blk B_h0 hk (Ne.symm n_g1_h0)
  replace B_h1 := kp_blk B_h1 hk (Ne.symm n_g1_h1)
  replace B_h2 := kp_blk B_h2 hk (Ne.symm n_g1_h2)
  replace B_h3 := kp_blk B_h3 hk (Ne.symm n_g1_h3)
  replace B_h4 := kp_blk B_h4 hk (Ne.symm n_g1_h4)
  replace K_0 := K_0.then_ hk (fun k h => by rw [show k = g1 from h]; exact Or.inr z_0_g1)
  replace B_g1 := B_g1'
  clear hk
  refine q0 p97_4_5 hE (st_assign rfl) ?_
  clear hE a; intro a hE
  refine p_nil ?_
  refine x_norm ?_
  refine wp_ret ?_
  refine ret_list (rs := [.cell 2 165, .tmp 3]) (vs := [Value.agg #[(Value.string { data := #[100, 97, 111] }), Value.slice (some ⟨h2, 0, none⟩) 5 5], Value.bool true]) rfl hE (.cellN (us := [(Value.string { data := #[100, 97, 111] }), Value.slice (some ⟨h2, 0, none⟩) 5 5]) tA165 tS165 rfl B_g1 rfl (.tmp rfl .nil)) rfl ?_
  exact ⟨_, _, rfl, fun W' hk => C_blk (k := .i64) (l := [0, 1, 5, 6, 9]) (kp_blk B_h2 hk (fun h => h)) ⟨rfl, Nat.le_of_ble_eq_true rfl⟩ rfl, Nat.le_refl _, K_0⟩

set_option maxHeartbeats 4000000 in
theorem cof_3 (w : World) : Calls Try.prog 97 #[.int .i64 3] w fun e w' => ∃ A c, e = .returned (.tuple #[Value.agg #[(Value.string { data := #[97, 99, 107] }), Value.slice A 2 c], .bool true]) ∧ (∀ W', Kp w' W' (fun _ => False) → Kd.C (Kd.int .i64) W' A 2 [0, 1]) ∧ 2 ≤ c ∧ Kp w w' (fun _ => False) := by
  have K_0 := Kp.refl w (fun _ => False)
  refine enter (args := [Value.int .i64 3]) (n := 19) Try.func97 body97 rfl rfl rfl ?_
  intro a hE
  refine c_reg R97_0_l ?_
  refine p_cons (s_alloc p97_0_0 hE wn_none rfl tZ165 ?_)
  clear hE a; intro g1 w2 z3 B_g1 hk a hE
  replace B_g1 : w2.heap[g1]? = some (.cells #[Value.string ByteArray.empty, Value.slice none 0 0] 165 (0, 0)) := B_g1
  have z_0_g1 := Nat.le_trans K_0.kept.1 z3
  replace K_0 := K_0.then_ hk (fun _ h => h.elim)
  clear hk
  refine q0 p97_0_1 hE (st_assign rfl) ?_
  clear hE a; intro a hE
  refine p_nil ?_
  refine x_norm ?_
  refine c_reg R97_1_l ?_
  refine p_cons (s_call (xs := []) (args := []) p97_1_0 hE wn_none rfl rfl Try.func139 cl139 (cforms_ok _) ?_)
  rintro e w4 ⟨h0, h1, h2, h3, h4, rfl, zh0, B_h0, zh1, B_h1, zh2, B_h2, zh3, B_h3, zh4, B_h4, hk⟩
  have n_g1_h0 : g1 ≠ h0 := ne_new B_g1 zh0
  have z_0_h0 := Nat.le_trans K_0.kept.1 zh0
  have n_g1_h1 : g1 ≠ h1 := ne_new B_g1 zh1
  have z_0_h1 := Nat.le_trans K_0.kept.1 zh1
  have n_g1_h2 : g1 ≠ h2 := ne_new B_g1 zh2
  have z_0_h2 := Nat.le_trans K_0.kept.1 zh2
  have n_g1_h3 : g1 ≠ h3 := ne_new B_g1 zh3
  have z_0_h3 := Nat.le_trans K_0.kept.1 zh3
  have n_g1_h4 : g1 ≠ h4 := ne_new B_g1 zh4
  have z_0_h4 := Nat.le_trans K_0.kept.1 zh4
  replace B_g1 := kp_blk B_g1 hk (fun h => h)
  replace K_0 := K_0.then_ hk (fun _ h => h.elim)
  refine ⟨_, rfl, ?_⟩
  clear hE a; intro a hE
  refine q0 p97_1_1 hE (st_assign rfl) ?_
  clear hE a; intro a hE
  refine p_nil ?_
  refine x_norm ?_
  refine wp_seq ?_
  refine c_reg R97_2_l ?_
  refine q0 p97_2_0 hE (st_move rfl) ?_
  clear hE a; intro a hE
  refine q0 p97_2_1 hE (st_lss (b := false) rfl rfl (by decide)) ?_
  clear hE a; intro a hE
  refine q0 p97_2_2 hE (st_move rfl) ?_
  clear hE a; intro a hE
  refine p_cons (s_still p97_2_3 hE (wn_some g97_2_2 rfl rfl) rfl (st_move rfl) ?_)
  clear hE a; intro a hE
  refine p_cons (s_still p97_2_4 hE (wn_some g97_2_2 rfl rfl) rfl (st_move rfl) ?_)
  clear hE a; intro a hE
  refine p_cons (s_still p97_2_5 hE (wn_some g97_2_2 rfl rfl) rfl (st_len Try.underlying213 rfl) ?_)
  clear hE a; intro a hE
  refine p_cons (s_still p97_2_6 hE (wn_some g97_2_2 rfl rfl) rfl (st_geq (b := false) rfl rfl (by decide)) ?_)
  clear hE a; intro a hE
  refine q0 p97_2_7 hE (st_pick rfl rfl) ?_
  clear hE a; intro a hE
  refine p_nil ?_
  refine x_norm ?_
  refine c_cond (t := false) hE rfl ?_
  refine wp_skip ?_
  refine x_norm ?_
  refine c_reg R97_4_l ?_
  refine q0 p97_4_0 hE (st_move rfl) ?_
  clear hE a; intro a hE
  refine q0 p97_4_1 hE (st_move rfl) ?_
  clear hE a; intro a hE
  refine q0 p97_4_2 hE (st_indexAddr (i := 3) Try.underlying213 tS165 rfl rfl (by decide) rfl) ?_
  clear hE a; intro a hE
  refine q0 p97_4_3 hE (st_loadN (off := 6) (k := 2) (vs := [(Value.string { data := #[97, 99, 107] }), Value.slice (some ⟨h3, 0, none⟩) 2 2]) tA165 tS165 rfl B_h4 rfl rfl) ?_
  clear hE a; intro a hE
  refine p_cons (s_store (off := 0) (k := 2) (cs' := #[(Value.string { data := #[97, 99, 107] }), Value.slice (some ⟨h3, 0, none⟩) 2 2]) p97_4_4 hE wn_none tS165 rfl rfl rfl rfl B_g1 (Nat.le_of_ble_eq_true rfl) rfl ?_)
  intro w5 B_g1' hk
  replace B_h0 := kp_blk B_h0 hk (Ne.symm n_g1_h0)
  replace B_h1 := kp_blk B_h1 hk (Ne.symm n_g1_h1)
  replace B_h2 := kp_blk B_h2 hk (Ne.symm n_g1_h2)
  replace B_h3 := kp_blk B_h3 hk (Ne.symm n_g1_h3)
  replace B_h4 := kp_blk B_h4 hk (Ne.symm n_g1_h4)
  replace K_0 := K_0.then_ hk (fun k h => by rw [show k = g1 from h]; exact Or.inr z_0_g1)
  replace B_g1 := B_g1'
  clear hk
  refine q0 p97_4_5 hE (st_assign rfl) ?_
  clear hE a; intro a hE
  refine p_nil ?_
  refine x_norm ?_
  refine wp_ret ?_
  refine ret_list (rs := [.cell 2 165, .tmp 3]) (vs := [Value.agg #[(Value.string { data := #[97, 99, 107] }), Value.slice (some ⟨h3, 0, none⟩) 2 2], Value.bool true]) rfl hE (.cellN (us := [(Value.string { data := #[97, 99, 107] }), Value.slice (some ⟨h3, 0, none⟩) 2 2]) tA165 tS165 rfl B_g1 rfl (.tmp rfl .nil)) rfl ?_
  exact ⟨_, _, rfl, fun W' hk => C_blk (k := .i64) (l := [0, 1]) (kp_blk B_h3 hk (fun h => h)) ⟨rfl, Nat.le_of_ble_eq_true rfl⟩ rfl, Nat.le_refl _, K_0⟩
theorem p97_3_0 : pj (regOf Try.f97 3) 0 = some (some 14, .build 165 #[], 165, none) := by kernel_rfl
theorem p97_3_1 : pj (regOf Try.f97 3) 1 = some (none, .store 165 (.tmp 2) (.tmp 14), 0, none) := by kernel_rfl
theorem p97_3_2 : pj (regOf Try.f97 3) 2 = some (some 3, .assign (.const (.bool false)), 4, none) := by kernel_rfl
set_option maxHeartbeats 4000000 in
theorem cof_no (k : Int) (h : ¬ (0 ≤ k ∧ k ≤ 3)) (w : World) : Calls Try.prog 97 #[.int .i64 k] w fun e w' => e = .returned (.tuple #[Value.agg #[Value.string ByteArray.empty, Value.slice none 0 0], .bool false]) ∧ Kp w w' (fun _ => False) := by
  have K_0 := Kp.refl w (fun _ => False)
  refine enter (args := [Value.int .i64 k]) (n := 19) Try.func97 body97 rfl rfl rfl ?_
  intro a hE
  refine c_reg R97_0_l ?_
  refine p_cons (s_alloc p97_0_0 hE wn_none rfl tZ165 ?_)
  clear hE a; intro g1 w2 z3 B_g1 hk a hE
  replace B_g1 : w2.heap[g1]? = some (.cells #[Value.string ByteArray.empty, Value.slice none 0 0] 165 (0, 0)) := B_g1
  have z_0_g1 := Nat.le_trans K_0.kept.1 z3
  replace K_0 := K_0.then_ hk (fun _ h => h.elim)
  clear hk
  refine q0 p97_0_1 hE (st_assign rfl) ?_
  clear hE a; intro a hE
  refine p_nil ?_
  refine x_norm ?_
  refine c_reg R97_1_l ?_
  refine p_cons (s_call (xs := []) (args := []) p97_1_0 hE wn_none rfl rfl Try.func139 cl139 (cforms_ok _) ?_)
  rintro e w4 ⟨h0, h1, h2, h3, h4, rfl, zh0, B_h0, zh1, B_h1, zh2, B_h2, zh3, B_h3, zh4, B_h4, hk⟩
  have n_g1_h0 : g1 ≠ h0 := ne_new B_g1 zh0
  have z_0_h0 := Nat.le_trans K_0.kept.1 zh0
  have n_g1_h1 : g1 ≠ h1 := ne_new B_g1 zh1
  have z_0_h1 := Nat.le_trans K_0.kept.1 zh1
  have n_g1_h2 : g1 ≠ h2 := ne_new B_g1 zh2
  have z_0_h2 := Nat.le_trans K_0.kept.1 zh2
  have n_g1_h3 : g1 ≠ h3 := ne_new B_g1 zh3
  have z_0_h3 := Nat.le_trans K_0.kept.1 zh3
  have n_g1_h4 : g1 ≠ h4 := ne_new B_g1 zh4
  have z_0_h4 := Nat.le_trans K_0.kept.1 zh4
  replace B_g1 := kp_blk B_g1 hk (fun h => h)
  replace K_0 := K_0.then_ hk (fun _ h => h.elim)
  refine ⟨_, rfl, ?_⟩
  clear hE a; intro a hE
  refine q0 p97_1_1 hE (st_assign rfl) ?_
  clear hE a; intro a hE
  refine p_nil ?_
  refine x_norm ?_
  refine wp_seq ?_
  rcases Decidable.em (k < 0) with hlo | hlo
  ·
    refine c_reg R97_2_l ?_
    refine q0 p97_2_0 hE (st_move rfl) ?_
    clear hE a; intro a hE
    refine q0 p97_2_1 hE (st_lss (b := true) rfl rfl (decide_eq_true (by omega))) ?_
    clear hE a; intro a hE
    refine q0 p97_2_2 hE (st_move rfl) ?_
    clear hE a; intro a hE
    refine p_cons (s_skip p97_2_3 hE (wn_some g97_2_2 rfl rfl) rfl ?_)
    clear hE a; intro a hE
    refine p_cons (s_skip p97_2_4 hE (wn_some g97_2_2 rfl rfl) rfl ?_)
    clear hE a; intro a hE
    refine p_cons (s_skip p97_2_5 hE (wn_some g97_2_2 rfl rfl) rfl ?_)
    clear hE a; intro a hE
    refine p_cons (s_skip p97_2_6 hE (wn_some g97_2_2 rfl rfl) rfl ?_)
    clear hE a; intro a hE
    refine q0 p97_2_7 hE (st_pick rfl rfl) ?_
    clear hE a; intro a hE
    refine p_nil ?_
    refine x_norm ?_
    refine c_cond (t := true) hE rfl ?_
    refine c_reg R97_3_l ?_
    refine q0 p97_3_0 hE (st_build (xs := []) (vs := []) (cs := #[Value.string ByteArray.empty, Value.slice none 0 0]) rfl (by kernel_rfl)) ?_
    clear hE a; intro a hE
    refine p_cons (s_store (off := 0) (k := 2) (cs' := #[Value.string ByteArray.empty, Value.slice none 0 0]) p97_3_1 hE wn_none tS165 rfl rfl rfl rfl B_g1 (Nat.le_of_ble_eq_true rfl) rfl ?_)
    intro w5 B_g1' hk
    replace B_h0 := kp_blk B_h0 hk (Ne.symm n_g1_h0)
    replace B_h1 := kp_blk B_h1 hk (Ne.symm n_g1_h1)
    replace B_h2 := kp_blk B_h2 hk (Ne.symm n_g1_h2)
    replace B_h3 := kp_blk B_h3 hk (Ne.symm n_g1_h3)
    replace B_h4 := kp_blk B_h4 hk (Ne.symm n_g1_h4)
    replace K_0 := K_0.then_ hk (fun k h => by rw [show k = g1 from h]; exact Or.inr z_0_g1)
    replace B_g1 := B_g1'
    clear hk
    refine q0 p97_3_2 hE (st_assign rfl) ?_
    clear hE a; intro a hE
    refine p_nil ?_
    refine x_norm ?_
    refine wp_ret ?_
    refine x_ret ?_
    refine ret_list (rs := [.cell 2 165, .tmp 3]) (vs := [Value.agg #[Value.string ByteArray.empty, Value.slice none 0 0], Value.bool false]) rfl hE (.cellN (us := [Value.string ByteArray.empty, Value.slice none 0 0]) tA165 tS165 rfl B_g1 rfl (.tmp rfl .nil)) rfl ?_
    exact ⟨rfl, K_0⟩
  ·
    refine c_reg R97_2_l ?_
    refine q0 p97_2_0 hE (st_move rfl) ?_
    clear hE a; intro a hE
    refine q0 p97_2_1 hE (st_lss (b := false) rfl rfl (decide_eq_false (by omega))) ?_
    clear hE a; intro a hE
    refine q0 p97_2_2 hE (st_move rfl) ?_
    clear hE a; intro a hE
    refine p_cons (s_still p97_2_3 hE (wn_some g97_2_2 rfl rfl) rfl (st_move rfl) ?_)
    clear hE a; intro a hE
    refine p_cons (s_still p97_2_4 hE (wn_some g97_2_2 rfl rfl) rfl (st_move rfl) ?_)
    clear hE a; intro a hE
    refine p_cons (s_still p97_2_5 hE (wn_some g97_2_2 rfl rfl) rfl (st_len Try.underlying213 rfl) ?_)
    clear hE a; intro a hE
    refine p_cons (s_still p97_2_6 hE (wn_some g97_2_2 rfl rfl) rfl (st_geq (b := true) rfl rfl (decide_eq_true (by omega))) ?_)
    clear hE a; intro a hE
    refine q0 p97_2_7 hE (st_pick rfl rfl) ?_
    clear hE a; intro a hE
    refine p_nil ?_
    refine x_norm ?_
    refine c_cond (t := true) hE rfl ?_
    refine c_reg R97_3_l ?_
    refine q0 p97_3_0 hE (st_build (xs := []) (vs := []) (cs := #[Value.string ByteArray.empty, Value.slice none 0 0]) rfl (by kernel_rfl)) ?_
    clear hE a; intro a hE
    refine p_cons (s_store (off := 0) (k := 2) (cs' := #[Value.string ByteArray.empty, Value.slice none 0 0]) p97_3_1 hE wn_none tS165 rfl rfl rfl rfl B_g1 (Nat.le_of_ble_eq_true rfl) rfl ?_)
    intro w6 B_g1' hk
    replace B_h0 := kp_blk B_h0 hk (Ne.symm n_g1_h0)
    replace B_h1 := kp_blk B_h1 hk (Ne.symm n_g1_h1)
    replace B_h2 := kp_blk B_h2 hk (Ne.symm n_g1_h2)
    replace B_h3 := kp_blk B_h3 hk (Ne.symm n_g1_h3)
    replace B_h4 := kp_blk B_h4 hk (Ne.symm n_g1_h4)
    replace K_0 := K_0.then_ hk (fun k h => by rw [show k = g1 from h]; exact Or.inr z_0_g1)
    replace B_g1 := B_g1'
    clear hk
    refine q0 p97_3_2 hE (st_assign rfl) ?_
    clear hE a; intro a hE
    refine p_nil ?_
    refine x_norm ?_
    refine wp_ret ?_
    refine x_ret ?_
    refine ret_list (rs := [.cell 2 165, .tmp 3]) (vs := [Value.agg #[Value.string ByteArray.empty, Value.slice none 0 0], Value.bool false]) rfl hE (.cellN (us := [Value.string ByteArray.empty, Value.slice none 0 0]) tA165 tS165 rfl B_g1 rfl (.tmp rfl .nil)) rfl ?_
    exact ⟨rfl, K_0⟩
def cword : Nat → ByteArray
  | 0 => ({ data := #[100, 105, 115] } : ByteArray)
  | 1 => ({ data := #[100, 105, 111] } : ByteArray)
  | 2 => ({ data := #[100, 97, 111] } : ByteArray)
  | 3 => ({ data := #[97, 99, 107] } : ByteArray)
  | _ => ByteArray.empty
def ckinds : Nat → List Int
  | 0 => [0, 1, 7]
  | 1 => [0, 1, 2, 3, 4, 8]
  | 2 => [0, 1, 5, 6, 9]
  | 3 => [0, 1]
  | _ => []
def cwordO (k : Int) : ByteArray := if 0 ≤ k ∧ k ≤ 3 then cword k.toNat else ByteArray.empty
def mayO (k x : Int) : Bool := if 0 ≤ k ∧ k ≤ 3 then decide (x ∈ ckinds k.toNat) else false
theorem ckinds_len (k : Nat) : (ckinds k).length ≤ 6 := by unfold ckinds; split <;> decide
theorem cof_ok (k : Nat) (hk : k ≤ 3) (w : World) : Calls Try.prog 97 #[.int .i64 (k : Int)] w fun e w' => ∃ A c, e = .returned (.tuple #[.agg #[.string (cword k), .slice A (ckinds k).length c], .bool true]) ∧ (∀ W', Kp w' W' (fun _ => False) → Kd.C (Kd.int .i64) W' A (ckinds k).length (ckinds k)) ∧ (ckinds k).length ≤ c ∧ Kp w w' (fun _ => False) := by
  match k, hk with
  | 0, _ => exact cof_0 w
  | 1, _ => exact cof_1 w
  | 2, _ => exact cof_2 w
  | 3, _ => exact cof_3 w
theorem R53_0_l : List.range (regOf Try.f53 0).size = [0] := by kernel_rfl
theorem R53_1_l : List.range (regOf Try.f53 1).size = [0, 1, 2, 3, 4, 5, 6, 7] := by kernel_rfl
theorem R53_2_l : List.range (regOf Try.f53 2).size = [0, 1, 2] := by kernel_rfl
theorem body53 : Try.f53.body = some (.seq (.region 0 (regOf Try.f53 0) false) (.seq (.region 1 (regOf Try.f53 1) false) (.seq (.region 2 (regOf Try.f53 2) false) (.ret)))) := by kernel_rfl
theorem p53_0_0 : pj (regOf Try.f53 0) 0 = some (some 2, .assign (.const (.string { data := #[] })), 9, none) := by kernel_rfl
theorem p53_1_0 : pj (regOf Try.f53 1) 0 = some (some 6, .move (.tmp 0), 3, none) := by kernel_rfl
theorem p53_1_1 : pj (regOf Try.f53 1) 1 = some (some 7, .call { callee := .value (.func 97), args := #[.tmp 6], argTypes := #[3] }, 166, none) := by kernel_rfl
theorem cl97 : callable Try.f97 = true := by kernel_rfl
theorem p53_1_2 : pj (regOf Try.f53 1) 2 = some (some 5, .move (.tmp 7), 166, none) := by kernel_rfl
theorem p53_1_3 : pj (regOf Try.f53 1) 3 = some (some 8, .extract (.tmp 5) 0, 165, none) := by kernel_rfl
theorem p53_1_4 : pj (regOf Try.f53 1) 4 = some (some 9, .extract (.tmp 5) 1, 4, none) := by kernel_rfl
theorem p53_1_5 : pj (regOf Try.f53 1) 5 = some (some 3, .alloc 165, 0, none) := by kernel_rfl
theorem p53_1_6 : pj (regOf Try.f53 1) 6 = some (none, .store 165 (.tmp 3) (.tmp 8), 0, none) := by kernel_rfl
theorem p53_1_7 : pj (regOf Try.f53 1) 7 = some (some 4, .assign (.tmp 9), 4, none) := by kernel_rfl
theorem p53_2_0 : pj (regOf Try.f53 2) 0 = some (some 10, .fieldAddr 165 (.tmp 3) 0, 0, none) := by kernel_rfl
theorem tS9 : (Try.prog.info? 9).map (·.size) = some 1 := by kernel_rfl
theorem p53_2_1 : pj (regOf Try.f53 2) 1 = some (some 11, .load 9 (.tmp 10), 9, none) := by kernel_rfl
theorem tA9 : (Try.prog.underlying 9).map aggD = some false := by kernel_rfl
theorem p53_2_2 : pj (regOf Try.f53 2) 2 = some (some 2, .assign (.tmp 11), 9, none) := by kernel_rfl
set_option maxHeartbeats 4000000 in
theorem cword_any (kk : Int) (w : World) : Calls Try.prog 53 #[.int .i64 kk] w fun e w' => e = .returned (.string (cwordO kk)) ∧ Kp w w' (fun _ => False) := by
  have K_0 := Kp.refl w (fun _ => False)
  refine enter (args := [Value.int .i64 kk]) (n := 12) Try.func53 body53 rfl rfl rfl ?_
  intro a hE
  refine c_reg R53_0_l ?_
  refine q0 p53_0_0 hE (st_assign rfl) ?_
  clear hE a; intro a hE
  refine p_nil ?_
  refine x_norm ?_
  rcases Decidable.em (0 ≤ kk ∧ kk ≤ 3) with hKN | hKN
  ·
    obtain ⟨k, rfl⟩ : ∃ k : Nat, kk = (k : Int) := ⟨kk.toNat, by omega⟩
    have hk9 : k ≤ 3 := by omega
    refine c_reg R53_1_l ?_
    refine q0 p53_1_0 hE (st_move rfl) ?_
    clear hE a; intro a hE
    refine p_cons (s_call (xs := [Operand.tmp 6]) (args := [Value.int .i64 (k : Int)]) p53_1_1 hE wn_none rfl rfl Try.func97 cl97 (cof_ok k hk9 _) ?_)
    rintro e w1 ⟨A1, c1, rfl, hF1, hc1, hk⟩
    replace K_0 := K_0.then_ hk (fun _ h => h.elim)
    have FA1 := fun W' hk => hF1 W' hk
    have K_s2 := Kp.refl w1 (fun _ => False)
    refine ⟨_, rfl, ?_⟩
    clear hE a; intro a hE
    refine q0 p53_1_2 hE (st_move rfl) ?_
    clear hE a; intro a hE
    refine q0 p53_1_3 hE (st_extract rfl rfl) ?_
    clear hE a; intro a hE
    refine q0 p53_1_4 hE (st_extract rfl rfl) ?_
    clear hE a; intro a hE
    refine p_cons (s_alloc p53_1_5 hE wn_none rfl tZ165 ?_)
    clear hE a; intro g3 w4 z5 B_g3 hk a hE
    replace B_g3 : w4.heap[g3]? = some (.cells #[Value.string ByteArray.empty, Value.slice none 0 0] 165 (0, 0)) := B_g3
    have z_0_g3 := Nat.le_trans K_0.kept.1 z5
    have z_s2_g3 := Nat.le_trans K_s2.kept.1 z5
    replace K_0 := K_0.then_ hk (fun _ h => h.elim)
    replace K_s2 := K_s2.then_ hk (fun _ h => h.elim)
    clear hk
    refine p_cons (s_store (off := 0) (k := 2) (cs' := #[Value.string (cword k), Value.slice A1 ((ckinds k).length) c1]) p53_1_6 hE wn_none tS165 rfl rfl rfl rfl B_g3 (Nat.le_of_ble_eq_true rfl) rfl ?_)
    intro w6 B_g3' hk
    replace K_0 := K_0.then_ hk (fun k h => by rw [show k = g3 from h]; exact Or.inr z_0_g3)
    replace K_s2 := K_s2.then_ hk (fun k h => by rw [show k = g3 from h]; exact Or.inr z_s2_g3)
    replace B_g3 := B_g3'
    clear hk
    refine q0 p53_1_7 hE (st_assign rfl) ?_
    clear hE a; intro a hE
    refine p_nil ?_
    refine x_norm ?_
    refine c_reg R53_2_l ?_
    refine q0 p53_2_0 hE (st_fieldAddr Try.underlying165 rfl tS9 rfl rfl) ?_
    clear hE a; intro a hE
    refine q0 p53_2_1 hE (st_load1 tA9 rfl ((blk_cell B_g3 0).trans rfl)) ?_
    clear hE a; intro a hE
    refine q0 p53_2_2 hE (st_assign rfl) ?_
    clear hE a; intro a hE
    refine p_nil ?_
    refine x_norm ?_
    refine wp_ret ?_
    refine ret_one (v := Value.string (cword k)) rfl hE (.tmp rfl .nil) ?_
    exact ⟨by unfold cwordO; rw [if_pos ⟨by omega, by omega⟩]; rfl, K_0⟩
  ·
    refine c_reg R53_1_l ?_
    refine q0 p53_1_0 hE (st_move rfl) ?_
    clear hE a; intro a hE
    refine p_cons (s_call (xs := [Operand.tmp 6]) (args := [Value.int .i64 kk]) p53_1_1 hE wn_none rfl rfl Try.func97 cl97 (cof_no kk hKN _) ?_)
    rintro e w7 ⟨rfl, hk⟩
    replace K_0 := K_0.then_ hk (fun _ h => h.elim)
    refine ⟨_, rfl, ?_⟩
    clear hE a; intro a hE
    refine q0 p53_1_2 hE (st_move rfl) ?_
    clear hE a; intro a hE
    refine q0 p53_1_3 hE (st_extract rfl rfl) ?_
    clear hE a; intro a hE
    refine q0 p53_1_4 hE (st_extract rfl rfl) ?_
    clear hE a; intro a hE
    refine p_cons (s_alloc p53_1_5 hE wn_none rfl tZ165 ?_)
    clear hE a; intro g8 w9 z10 B_g8 hk a hE
    replace B_g8 : w9.heap[g8]? = some (.cells #[Value.string ByteArray.empty, Value.slice none 0 0] 165 (0, 0)) := B_g8
    have z_0_g8 := Nat.le_trans K_0.kept.1 z10
    replace K_0 := K_0.then_ hk (fun _ h => h.elim)
    clear hk
    refine p_cons (s_store (off := 0) (k := 2) (cs' := #[Value.string ByteArray.empty, Value.slice none 0 0]) p53_1_6 hE wn_none tS165 rfl rfl rfl rfl B_g8 (Nat.le_of_ble_eq_true rfl) rfl ?_)
    intro w11 B_g8' hk
    replace K_0 := K_0.then_ hk (fun k h => by rw [show k = g8 from h]; exact Or.inr z_0_g8)
    replace B_g8 := B_g8'
    clear hk
    refine q0 p53_1_7 hE (st_assign rfl) ?_
    clear hE a; intro a hE
    refine p_nil ?_
    refine x_norm ?_
    refine c_reg R53_2_l ?_
    refine q0 p53_2_0 hE (st_fieldAddr Try.underlying165 rfl tS9 rfl rfl) ?_
    clear hE a; intro a hE
    refine q0 p53_2_1 hE (st_load1 tA9 rfl ((blk_cell B_g8 0).trans rfl)) ?_
    clear hE a; intro a hE
    refine q0 p53_2_2 hE (st_assign rfl) ?_
    clear hE a; intro a hE
    refine p_nil ?_
    refine x_norm ?_
    refine wp_ret ?_
    refine ret_one (v := Value.string ByteArray.empty) rfl hE (.tmp rfl .nil) ?_
    exact ⟨by unfold cwordO; rw [if_neg hKN]; try rfl, K_0⟩
theorem R54_0_l : List.range (regOf Try.f54 0).size = [0] := by kernel_rfl
theorem R54_1_l : List.range (regOf Try.f54 1).size = [0, 1, 2, 3, 4, 5, 6, 7] := by kernel_rfl
theorem R54_2_l : List.range (regOf Try.f54 2).size = [0, 1, 2, 3, 4] := by kernel_rfl
theorem body54 : Try.f54.body = some (.seq (.region 0 (regOf Try.f54 0) false) (.seq (.region 1 (regOf Try.f54 1) false) (.seq (.region 2 (regOf Try.f54 2) false) (.ret)))) := by kernel_rfl
theorem p54_0_0 : pj (regOf Try.f54 0) 0 = some (some 4, .assign (.const (.bool false)), 4, none) := by kernel_rfl
theorem p54_1_0 : pj (regOf Try.f54 1) 0 = some (some 8, .move (.tmp 0), 3, none) := by kernel_rfl
theorem p54_1_1 : pj (regOf Try.f54 1) 1 = some (some 9, .call { callee := .value (.func 97), args := #[.tmp 8], argTypes := #[3] }, 166, none) := by kernel_rfl
theorem p54_1_2 : pj (regOf Try.f54 1) 2 = some (some 7, .move (.tmp 9), 166, none) := by kernel_rfl
theorem p54_1_3 : pj (regOf Try.f54 1) 3 = some (some 10, .extract (.tmp 7) 0, 165, none) := by kernel_rfl
theorem p54_1_4 : pj (regOf Try.f54 1) 4 = some (some 11, .extract (.tmp 7) 1, 4, none) := by kernel_rfl
theorem p54_1_5 : pj (regOf Try.f54 1) 5 = some (some 5, .alloc 165, 0, none) := by kernel_rfl
theorem p54_1_6 : pj (regOf Try.f54 1) 6 = some (none, .store 165 (.tmp 5) (.tmp 10), 0, none) := by kernel_rfl
theorem p54_1_7 : pj (regOf Try.f54 1) 7 = some (some 6, .assign (.tmp 11), 4, none) := by kernel_rfl
theorem p54_2_0 : pj (regOf Try.f54 2) 0 = some (some 12, .fieldAddr 165 (.tmp 5) 1, 0, none) := by kernel_rfl
theorem tS62 : (Try.prog.info? 62).map (·.size) = some 1 := by kernel_rfl
theorem p54_2_1 : pj (regOf Try.f54 2) 1 = some (some 13, .load 62 (.tmp 12), 62, none) := by kernel_rfl
theorem tA62 : (Try.prog.underlying 62).map aggD = some false := by kernel_rfl
theorem p54_2_2 : pj (regOf Try.f54 2) 2 = some (some 14, .move (.tmp 1), 3, none) := by kernel_rfl
theorem p54_2_3 : pj (regOf Try.f54 2) 3 = some (some 15, .call { callee := .value (.func 86), args := #[.tmp 13, .tmp 14], argTypes := #[62, 3] }, 4, none) := by kernel_rfl
theorem cl86 : callable Try.f86 = true := by kernel_rfl
theorem p54_2_4 : pj (regOf Try.f54 2) 4 = some (some 4, .assign (.tmp 15), 4, none) := by kernel_rfl
set_option maxHeartbeats 4000000 in
theorem cmay_any (kk x : Int) (w : World) : Calls Try.prog 54 #[.int .i64 kk, .int .i64 x] w fun e w' => e = .returned (.bool (mayO kk x)) ∧ Kp w w' (fun _ => False) := by
  have K_0 := Kp.refl w (fun _ => False)
  refine enter (args := [Value.int .i64 kk, Value.int .i64 x]) (n := 16) Try.func54 body54 rfl rfl rfl ?_
  intro a hE
  refine c_reg R54_0_l ?_
  refine q0 p54_0_0 hE (st_assign rfl) ?_
  clear hE a; intro a hE
  refine p_nil ?_
  refine x_norm ?_
  rcases Decidable.em (0 ≤ kk ∧ kk ≤ 3) with hKN | hKN
  ·
    obtain ⟨k, rfl⟩ : ∃ k : Nat, kk = (k : Int) := ⟨kk.toNat, by omega⟩
    have hk9 : k ≤ 3 := by omega
    refine c_reg R54_1_l ?_
    refine q0 p54_1_0 hE (st_move rfl) ?_
    clear hE a; intro a hE
    refine p_cons (s_call (xs := [Operand.tmp 8]) (args := [Value.int .i64 (k : Int)]) p54_1_1 hE wn_none rfl rfl Try.func97 cl97 (cof_ok k hk9 _) ?_)
    rintro e w1 ⟨A1, c1, rfl, hF1, hc1, hk⟩
    replace K_0 := K_0.then_ hk (fun _ h => h.elim)
    have FA1 := fun W' hk => hF1 W' hk
    have K_s2 := Kp.refl w1 (fun _ => False)
    refine ⟨_, rfl, ?_⟩
    clear hE a; intro a hE
    refine q0 p54_1_2 hE (st_move rfl) ?_
    clear hE a; intro a hE
    refine q0 p54_1_3 hE (st_extract rfl rfl) ?_
    clear hE a; intro a hE
    refine q0 p54_1_4 hE (st_extract rfl rfl) ?_
    clear hE a; intro a hE
    refine p_cons (s_alloc p54_1_5 hE wn_none rfl tZ165 ?_)
    clear hE a; intro g3 w4 z5 B_g3 hk a hE
    replace B_g3 : w4.heap[g3]? = some (.cells #[Value.string ByteArray.empty, Value.slice none 0 0] 165 (0, 0)) := B_g3
    have z_0_g3 := Nat.le_trans K_0.kept.1 z5
    have z_s2_g3 := Nat.le_trans K_s2.kept.1 z5
    replace K_0 := K_0.then_ hk (fun _ h => h.elim)
    replace K_s2 := K_s2.then_ hk (fun _ h => h.elim)
    clear hk
    refine p_cons (s_store (off := 0) (k := 2) (cs' := #[Value.string (cword k), Value.slice A1 ((ckinds k).length) c1]) p54_1_6 hE wn_none tS165 rfl rfl rfl rfl B_g3 (Nat.le_of_ble_eq_true rfl) rfl ?_)
    intro w6 B_g3' hk
    replace K_0 := K_0.then_ hk (fun k h => by rw [show k = g3 from h]; exact Or.inr z_0_g3)
    replace K_s2 := K_s2.then_ hk (fun k h => by rw [show k = g3 from h]; exact Or.inr z_s2_g3)
    replace B_g3 := B_g3'
    clear hk
    refine q0 p54_1_7 hE (st_assign rfl) ?_
    clear hE a; intro a hE
    refine p_nil ?_
    refine x_norm ?_
    refine c_reg R54_2_l ?_
    refine q0 p54_2_0 hE (st_fieldAddr Try.underlying165 rfl tS62 rfl rfl) ?_
    clear hE a; intro a hE
    refine q0 p54_2_1 hE (st_load1 tA62 rfl ((blk_cell B_g3 1).trans rfl)) ?_
    clear hE a; intro a hE
    refine q0 p54_2_2 hE (st_move rfl) ?_
    clear hE a; intro a hE
    refine p_cons (s_call (xs := [Operand.tmp 13, Operand.tmp 14]) (args := [Value.slice A1 ((ckinds k).length) c1, Value.int .i64 x]) p54_2_3 hE wn_none rfl rfl Try.func86 cl86 (contains_any A1 c1 (ckinds k) x _ rfl _ (fun W' hk => hF1 W' (K_s2.then_ hk (fun _ h => h.elim))) (by have := ckinds_len k; omega)) ?_)
    rintro e w7 ⟨rfl, hk⟩
    replace B_g3 := kp_blk B_g3 hk (fun h => h)
    replace K_0 := K_0.then_ hk (fun _ h => h.elim)
    replace K_s2 := K_s2.then_ hk (fun _ h => h.elim)
    refine ⟨_, rfl, ?_⟩
    clear hE a; intro a hE
    refine q0 p54_2_4 hE (st_assign rfl) ?_
    clear hE a; intro a hE
    refine p_nil ?_
    refine x_norm ?_
    refine wp_ret ?_
    refine ret_one (v := Value.bool (decide (x ∈ ckinds k))) rfl hE (.tmp rfl .nil) ?_
    exact ⟨by unfold mayO; rw [if_pos ⟨by omega, by omega⟩]; rfl, K_0⟩
  ·
    refine c_reg R54_1_l ?_
    refine q0 p54_1_0 hE (st_move rfl) ?_
    clear hE a; intro a hE
    refine p_cons (s_call (xs := [Operand.tmp 8]) (args := [Value.int .i64 kk]) p54_1_1 hE wn_none rfl rfl Try.func97 cl97 (cof_no kk hKN _) ?_)
    rintro e w8 ⟨rfl, hk⟩
    replace K_0 := K_0.then_ hk (fun _ h => h.elim)
    refine ⟨_, rfl, ?_⟩
    clear hE a; intro a hE
    refine q0 p54_1_2 hE (st_move rfl) ?_
    clear hE a; intro a hE
    refine q0 p54_1_3 hE (st_extract rfl rfl) ?_
    clear hE a; intro a hE
    refine q0 p54_1_4 hE (st_extract rfl rfl) ?_
    clear hE a; intro a hE
    refine p_cons (s_alloc p54_1_5 hE wn_none rfl tZ165 ?_)
    clear hE a; intro g9 w10 z11 B_g9 hk a hE
    replace B_g9 : w10.heap[g9]? = some (.cells #[Value.string ByteArray.empty, Value.slice none 0 0] 165 (0, 0)) := B_g9
    have z_0_g9 := Nat.le_trans K_0.kept.1 z11
    replace K_0 := K_0.then_ hk (fun _ h => h.elim)
    clear hk
    refine p_cons (s_store (off := 0) (k := 2) (cs' := #[Value.string ByteArray.empty, Value.slice none 0 0]) p54_1_6 hE wn_none tS165 rfl rfl rfl rfl B_g9 (Nat.le_of_ble_eq_true rfl) rfl ?_)
    intro w12 B_g9' hk
    replace K_0 := K_0.then_ hk (fun k h => by rw [show k = g9 from h]; exact Or.inr z_0_g9)
    replace B_g9 := B_g9'
    clear hk
    refine q0 p54_1_7 hE (st_assign rfl) ?_
    clear hE a; intro a hE
    refine p_nil ?_
    refine x_norm ?_
    refine c_reg R54_2_l ?_
    refine q0 p54_2_0 hE (st_fieldAddr Try.underlying165 rfl tS62 rfl rfl) ?_
    clear hE a; intro a hE
    refine q0 p54_2_1 hE (st_load1 tA62 rfl ((blk_cell B_g9 1).trans rfl)) ?_
    clear hE a; intro a hE
    refine q0 p54_2_2 hE (st_move rfl) ?_
    clear hE a; intro a hE
    refine p_cons (s_call (xs := [Operand.tmp 13, Operand.tmp 14]) (args := [Value.slice none 0 0, Value.int .i64 x]) p54_2_3 hE wn_none rfl rfl Try.func86 cl86 (contains_any none 0 [] x _ rfl _ (fun W' hk => Kd.C_nil _ _) (Nat.zero_le _)) ?_)
    rintro e w13 ⟨rfl, hk⟩
    replace B_g9 := kp_blk B_g9 hk (fun h => h)
    replace K_0 := K_0.then_ hk (fun _ h => h.elim)
    refine ⟨_, rfl, ?_⟩
    clear hE a; intro a hE
    refine q0 p54_2_4 hE (st_assign rfl) ?_
    clear hE a; intro a hE
    refine p_nil ?_
    refine x_norm ?_
    refine wp_ret ?_
    refine ret_one (v := Value.bool (decide (x ∈ ([] : List Int)))) rfl hE (.tmp rfl .nil) ?_
    exact ⟨by unfold mayO; rw [if_neg hKN]; try rfl, K_0⟩
section
variable {P : Program} {T T1 T2 : TypeId} {m : List (Nat × Value)} {w : World} {X Y : Operand} {k : IntKind}
theorem st_indexS {s : ByteArray} {i : Nat} (hT : P.underlying T1 = some .string) (h1 : ev m X = some (.string s)) (h2 : ev m Y = some (.int k (i : Int))) (hi : i < s.size) : Still P (.index T1 X Y) T m w (.int .u8 (bt s (i : Int))) := fun n a hE o e1 e2 => by
  unfold execOp; rw [e1]
  have hb := bt_at s (i : Int) hi
  simp only [Int.toNat_natCast] at hb
  simp [hE.ev h1, hE.ev h2, Instr.index, asIntOf, run_underlying hT, getElem?_pos, hi, hb]
end
def cstr : Nat → ByteArray
  | 0 => ({ data := #[48, 49, 55] } : ByteArray)
  | 1 => ({ data := #[48, 49, 50, 51, 52, 56] } : ByteArray)
  | 2 => ({ data := #[48, 49, 53, 54, 57] } : ByteArray)
  | 3 => ({ data := #[48, 49] } : ByteArray)
  | _ => ByteArray.empty
/-- Is a kind among the first i letters? -/
def amongS (s : ByteArray) (x : Int) (i : Nat) : Bool := (List.range i).any fun j => decide (bt s (j : Int) - 48 = x)
theorem amongS_succ (s : ByteArray) (x : Int) (i : Nat) : amongS s x (i + 1) = (amongS s x i || decide (bt s (i : Int) - 48 = x)) := by
  unfold amongS; rw [List.range_succ, List.any_append]; simp
theorem amongS_on (s : ByteArray) (x : Int) (i n : Nat) (hi : i < n) (h : bt s (i : Int) - 48 = x) : amongS s x n = true := by
  unfold amongS; exact List.any_eq_true.2 ⟨i, List.mem_range.2 hi, decide_eq_true h⟩
theorem among_may : ∀ k, k < 4 → ∀ x, x < 10 → amongS (cstr k) (x : Nat) (cstr k).size = decide (((x : Nat) : Int) ∈ ckinds k) := by decide +kernel
theorem ckinds_bd : ∀ k, k < 4 → ∀ x ∈ ckinds k, 0 ≤ x ∧ x ≤ 9 := by decide +kernel
theorem mayO_in (k : Nat) (hk : k < 4) (x : Int) (h : 0 ≤ x ∧ x ≤ 9) : amongS (cstr k) x (cstr k).size = mayO (k : Int) x := by
  obtain ⟨y, rfl⟩ : ∃ y : Nat, x = (y : Int) := ⟨x.toNat, by omega⟩
  unfold mayO
  rw [if_pos ⟨by omega, by omega⟩, Int.toNat_natCast]
  exact among_may k hk y (by omega)
theorem mayO_out (k x : Int) (h : ¬ ((0 ≤ k ∧ k ≤ 3) ∧ 0 ≤ x ∧ x ≤ 9)) : mayO k x = false := by
  unfold mayO
  by_cases hk : 0 ≤ k ∧ k ≤ 3
  · rw [if_pos hk]
    refine decide_eq_false fun hm => h ⟨hk, ?_⟩
    exact ckinds_bd k.toNat (by omega) x hm
  · rw [if_neg hk]
theorem R55_0_l : List.range (regOf Try.f55 0).size = [0] := by kernel_rfl
theorem R55_1_l : List.range (regOf Try.f55 1).size = [0, 1, 2] := by kernel_rfl
theorem R55_2_l : List.range (regOf Try.f55 2).size = [0, 1, 2, 3, 4, 5, 6, 7, 8, 9, 10, 11, 12, 13] := by kernel_rfl
theorem R55_3_l : List.range (regOf Try.f55 3).size = [0] := by kernel_rfl
theorem R55_4_l : List.range (regOf Try.f55 4).size = [0] := by kernel_rfl
theorem R55_5_l : List.range (regOf Try.f55 5).size = [0, 1, 2, 3, 4, 5] := by kernel_rfl
theorem R55_7_l : List.range (regOf Try.f55 7).size = [0, 1, 2, 3, 4, 5, 6, 7, 8] := by kernel_rfl
theorem R55_8_l : List.range (regOf Try.f55 8).size = [0] := by kernel_rfl
theorem R55_6_l : List.range (regOf Try.f55 6).size = [0, 1, 2] := by kernel_rfl
theorem R55_9_l : List.range (regOf Try.f55 9).size = [0] := by kernel_rfl
theorem body55 : Try.f55.body = some (.seq (.region 0 (regOf Try.f55 0) false) (.seq (.region 1 (regOf Try.f55 1) false) (.seq (.seq (.region 2 (regOf Try.f55 2) false) (.cond (Operand.tmp 21) (.seq (.region 3 (regOf Try.f55 3) false) (.ret)) (.skip))) (.seq (.seq (.region 4 (regOf Try.f55 4) false) (.block 0 (.loop (.seq (.seq (.region 5 (regOf Try.f55 5) false) (.cond (Operand.tmp 27) (.skip) (.exit 0))) (.seq (.block 1 (.seq (.region 7 (regOf Try.f55 7) false) (.cond (Operand.tmp 38) (.seq (.region 8 (regOf Try.f55 8) false) (.ret)) (.skip)))) (.region 6 (regOf Try.f55 6) false)))))) (.seq (.region 9 (regOf Try.f55 9) false) (.ret)))))) := by kernel_rfl
theorem p55_0_0 : pj (regOf Try.f55 0) 0 = some (some 4, .assign (.const (.bool false)), 4, none) := by kernel_rfl
theorem p55_1_0 : pj (regOf Try.f55 1) 0 = some (some 7, .build 87 #[(0, .const (.string { data := #[48, 49, 55] })), (1, .const (.string { data := #[48, 49, 50, 51, 52, 56] })), (2, .const (.string { data := #[48, 49, 53, 54, 57] })), (3, .const (.string { data := #[48, 49] }))], 87, none) := by kernel_rfl
theorem p55_1_1 : pj (regOf Try.f55 1) 1 = some (some 5, .alloc 87, 0, none) := by kernel_rfl
theorem tZ87 : (Try.prog.info? 87).bind (·.zero) = some (Value.agg #[Value.string ByteArray.empty, Value.string ByteArray.empty, Value.string ByteArray.empty, Value.string ByteArray.empty]) := by kernel_rfl
theorem p55_1_2 : pj (regOf Try.f55 1) 2 = some (none, .store 87 (.tmp 5) (.tmp 7), 0, none) := by kernel_rfl
theorem tS87 : (Try.prog.info? 87).map (·.size) = some 4 := by kernel_rfl
theorem p55_2_0 : pj (regOf Try.f55 2) 0 = some (some 8, .move (.tmp 0), 3, none) := by kernel_rfl
theorem p55_2_1 : pj (regOf Try.f55 2) 1 = some (some 9, .binOp .lss 3 (.tmp 8) (.const (.int .i64 0)) 3, 4, none) := by kernel_rfl
theorem p55_2_2 : pj (regOf Try.f55 2) 2 = some (some 10, .move (.tmp 9), 4, none) := by kernel_rfl
theorem p55_2_3 : pj (regOf Try.f55 2) 3 = some (some 11, .move (.tmp 0), 3, some (2, false)) := by kernel_rfl
theorem g55_2_2 : dstOf (regOf Try.f55 2) 2 = some 10 := by kernel_rfl
theorem p55_2_4 : pj (regOf Try.f55 2) 4 = some (some 12, .binOp .gtr 3 (.tmp 11) (.const (.int .i64 3)) 3, 4, some (2, false)) := by kernel_rfl
theorem p55_2_5 : pj (regOf Try.f55 2) 5 = some (some 13, .pick (.tmp 10) (.const (.bool true)) (.tmp 12), 4, none) := by kernel_rfl
theorem p55_2_6 : pj (regOf Try.f55 2) 6 = some (some 14, .move (.tmp 13), 4, none) := by kernel_rfl
theorem p55_2_7 : pj (regOf Try.f55 2) 7 = some (some 15, .move (.tmp 1), 3, some (6, false)) := by kernel_rfl
theorem g55_2_6 : dstOf (regOf Try.f55 2) 6 = some 14 := by kernel_rfl
theorem p55_2_8 : pj (regOf Try.f55 2) 8 = some (some 16, .binOp .lss 3 (.tmp 15) (.const (.int .i64 0)) 3, 4, some (6, false)) := by kernel_rfl
theorem p55_2_9 : pj (regOf Try.f55 2) 9 = some (some 17, .pick (.tmp 14) (.const (.bool true)) (.tmp 16), 4, none) := by kernel_rfl
theorem p55_2_10 : pj (regOf Try.f55 2) 10 = some (some 18, .move (.tmp 17), 4, none) := by kernel_rfl
theorem p55_2_11 : pj (regOf Try.f55 2) 11 = some (some 19, .move (.tmp 1), 3, some (10, false)) := by kernel_rfl
theorem g55_2_10 : dstOf (regOf Try.f55 2) 10 = some 18 := by kernel_rfl
theorem p55_2_12 : pj (regOf Try.f55 2) 12 = some (some 20, .binOp .gtr 3 (.tmp 19) (.const (.int .i64 9)) 3, 4, some (10, false)) := by kernel_rfl
theorem p55_2_13 : pj (regOf Try.f55 2) 13 = some (some 21, .pick (.tmp 18) (.const (.bool true)) (.tmp 20), 4, none) := by kernel_rfl
theorem p55_4_0 : pj (regOf Try.f55 4) 0 = some (some 6, .assign (.const (.int .i64 0)), 3, none) := by kernel_rfl
theorem p55_5_0 : pj (regOf Try.f55 5) 0 = some (some 22, .move (.tmp 6), 3, none) := by kernel_rfl
theorem p55_5_1 : pj (regOf Try.f55 5) 1 = some (some 23, .move (.tmp 0), 3, none) := by kernel_rfl
theorem p55_5_2 : pj (regOf Try.f55 5) 2 = some (some 24, .indexAddr 87 (.tmp 5) (.tmp 23), 0, none) := by kernel_rfl
theorem p55_5_3 : pj (regOf Try.f55 5) 3 = some (some 25, .load 9 (.tmp 24), 9, none) := by kernel_rfl
theorem p55_5_4 : pj (regOf Try.f55 5) 4 = some (some 26, .call { callee := .builtin .len, args := #[.tmp 25], argTypes := #[9] }, 3, none) := by kernel_rfl
theorem p55_5_5 : pj (regOf Try.f55 5) 5 = some (some 27, .binOp .lss 3 (.tmp 22) (.tmp 26) 3, 4, none) := by kernel_rfl
theorem p55_7_0 : pj (regOf Try.f55 7) 0 = some (some 30, .move (.tmp 0), 3, none) := by kernel_rfl
theorem p55_7_1 : pj (regOf Try.f55 7) 1 = some (some 31, .indexAddr 87 (.tmp 5) (.tmp 30), 0, none) := by kernel_rfl
theorem p55_7_2 : pj (regOf Try.f55 7) 2 = some (some 32, .load 9 (.tmp 31), 9, none) := by kernel_rfl
theorem p55_7_3 : pj (regOf Try.f55 7) 3 = some (some 33, .move (.tmp 6), 3, none) := by kernel_rfl
theorem p55_7_4 : pj (regOf Try.f55 7) 4 = some (some 34, .index 9 (.tmp 32) (.tmp 33), 5, none) := by kernel_rfl
theorem p55_7_5 : pj (regOf Try.f55 7) 5 = some (some 35, .convert 5 3 (.tmp 34), 3, none) := by kernel_rfl
theorem p55_7_6 : pj (regOf Try.f55 7) 6 = some (some 36, .binOp .sub 3 (.tmp 35) (.const (.int .i64 48)) 3, 3, none) := by kernel_rfl
theorem p55_7_7 : pj (regOf Try.f55 7) 7 = some (some 37, .move (.tmp 1), 3, none) := by kernel_rfl
theorem p55_7_8 : pj (regOf Try.f55 7) 8 = some (some 38, .binOp .eql 3 (.tmp 36) (.tmp 37) 3, 4, none) := by kernel_rfl
theorem p55_8_0 : pj (regOf Try.f55 8) 0 = some (some 4, .assign (.const (.bool true)), 4, none) := by kernel_rfl
theorem p55_6_0 : pj (regOf Try.f55 6) 0 = some (some 28, .move (.tmp 6), 3, none) := by kernel_rfl
theorem p55_6_1 : pj (regOf Try.f55 6) 1 = some (some 29, .binOp .add 3 (.tmp 28) (.const (.int .i64 1)) 3, 3, none) := by kernel_rfl
theorem p55_6_2 : pj (regOf Try.f55 6) 2 = some (some 6, .assign (.tmp 29), 3, none) := by kernel_rfl
theorem p55_9_0 : pj (regOf Try.f55 9) 0 = some (some 4, .assign (.const (.bool false)), 4, none) := by kernel_rfl
set_option maxHeartbeats 4000000 in
theorem rmay_0 (x : Int) (hx : 0 ≤ x ∧ x ≤ 9) (w : World) : Calls Try.prog 55 #[.int .i64 0, .int .i64 x] w fun e w' => e = .returned (.bool (mayO 0 x)) ∧ Kp w w' (fun _ => False) := by
  have K_0 := Kp.refl w (fun _ => False)
  have hsz : ({ data := #[48, 49, 55] } : ByteArray).size = 3 := rfl
  refine enter (args := [Value.int .i64 0, Value.int .i64 x]) (n := 39) Try.func55 body55 rfl rfl rfl ?_
  intro a hE
  refine c_reg R55_0_l ?_
  refine q0 p55_0_0 hE (st_assign rfl) ?_
  clear hE a; intro a hE
  refine p_nil ?_
  refine x_norm ?_
  refine c_reg R55_1_l ?_
  refine q0 p55_1_0 hE (st_build (xs := [(0, Operand.const (Value.string { data := #[48, 49, 55] })), (1, Operand.const (Value.string { data := #[48, 49, 50, 51, 52, 56] })), (2, Operand.const (Value.string { data := #[48, 49, 53, 54, 57] })), (3, Operand.const (Value.string { data := #[48, 49] }))]) (vs := [(0, (Value.string { data := #[48, 49, 55] })), (1, (Value.string { data := #[48, 49, 50, 51, 52, 56] })), (2, (Value.string { data := #[48, 49, 53, 54, 57] })), (3, (Value.string { data := #[48, 49] }))]) (cs := #[(Value.string { data := #[48, 49, 55] }), (Value.string { data := #[48, 49, 50, 51, 52, 56] }), (Value.string { data := #[48, 49, 53, 54, 57] }), (Value.string { data := #[48, 49] })]) rfl (by kernel_rfl)) ?_
  clear hE a; intro a hE
  refine p_cons (s_alloc p55_1_1 hE wn_none rfl tZ87 ?_)
  clear hE a; intro g1 w2 z3 B_g1 hk a hE
  replace B_g1 : w2.heap[g1]? = some (.cells #[Value.string ByteArray.empty, Value.string ByteArray.empty, Value.string ByteArray.empty, Value.string ByteArray.empty] 87 (0, 0)) := B_g1
  have z_0_g1 := Nat.le_trans K_0.kept.1 z3
  replace K_0 := K_0.then_ hk (fun _ h => h.elim)
  clear hk
  refine p_cons (s_store (off := 0) (k := 4) (cs' := #[(Value.string { data := #[48, 49, 55] }), (Value.string { data := #[48, 49, 50, 51, 52, 56] }), (Value.string { data := #[48, 49, 53, 54, 57] }), (Value.string { data := #[48, 49] })]) p55_1_2 hE wn_none tS87 rfl rfl rfl rfl B_g1 (Nat.le_of_ble_eq_true rfl) rfl ?_)
  intro w4 B_g1' hk
  replace K_0 := K_0.then_ hk (fun k h => by rw [show k = g1 from h]; exact Or.inr z_0_g1)
  replace B_g1 := B_g1'
  clear hk
  refine p_nil ?_
  refine x_norm ?_
  refine wp_seq ?_
  refine c_reg R55_2_l ?_
  refine q0 p55_2_0 hE (st_move rfl) ?_
  clear hE a; intro a hE
  refine q0 p55_2_1 hE (st_lss (b := false) rfl rfl (by decide)) ?_
  clear hE a; intro a hE
  refine q0 p55_2_2 hE (st_move rfl) ?_
  clear hE a; intro a hE
  refine p_cons (s_still p55_2_3 hE (wn_some g55_2_2 rfl rfl) rfl (st_move rfl) ?_)
  clear hE a; intro a hE
  refine p_cons (s_still p55_2_4 hE (wn_some g55_2_2 rfl rfl) rfl (st_gtr (b := false) rfl rfl (by decide)) ?_)
  clear hE a; intro a hE
  refine q0 p55_2_5 hE (st_pick rfl rfl) ?_
  clear hE a; intro a hE
  refine q0 p55_2_6 hE (st_move rfl) ?_
  clear hE a; intro a hE
  refine p_cons (s_still p55_2_7 hE (wn_some g55_2_6 rfl rfl) rfl (st_move rfl) ?_)
  clear hE a; intro a hE
  refine p_cons (s_still p55_2_8 hE (wn_some g55_2_6 rfl rfl) rfl (st_lss (b := false) rfl rfl (decide_eq_false (by omega))) ?_)
  clear hE a; intro a hE
  refine q0 p55_2_9 hE (st_pick rfl rfl) ?_
  clear hE a; intro a hE
  refine q0 p55_2_10 hE (st_move rfl) ?_
  clear hE a; intro a hE
  refine p_cons (s_still p55_2_11 hE (wn_some g55_2_10 rfl rfl) rfl (st_move rfl) ?_)
  clear hE a; intro a hE
  refine p_cons (s_still p55_2_12 hE (wn_some g55_2_10 rfl rfl) rfl (st_gtr (b := false) rfl rfl (decide_eq_false (by omega))) ?_)
  clear hE a; intro a hE
  refine q0 p55_2_13 hE (st_pick rfl rfl) ?_
  clear hE a; intro a hE
  refine p_nil ?_
  refine x_norm ?_
  refine c_cond (t := false) hE rfl ?_
  refine wp_skip ?_
  refine x_norm ?_
  refine wp_seq ?_
  refine c_reg R55_4_l ?_
  refine q0 p55_4_0 hE (st_assign rfl) ?_
  clear hE a; intro a hE
  refine p_nil ?_
  refine x_norm ?_
  refine wp_block ?_
  refine c_loop (α := Nat) (fun i a W => En 39 a [(0, Value.int .i64 0), (1, Value.int .i64 x), (5, Value.pointer (some ⟨g1, 0, none⟩)), (21, Value.bool false), (6, Value.int .i64 (i : Int))] ∧ i ≤ 3 ∧ (amongS (cstr 0) x i = false) ∧ W.heap[g1]? = some (.cells #[(Value.string { data := #[48, 49, 55] }), (Value.string { data := #[48, 49, 50, 51, 52, 56] }), (Value.string { data := #[48, 49, 53, 54, 57] }), (Value.string { data := #[48, 49] })] 87 (0, 0)) ∧ Kp w W (fun _ => False)) (fun i => 3 - i) (0) ?_ ?_
  ·
    exact ⟨En.sub hE ⟨rfl, rfl, rfl, rfl, rfl, trivial⟩, Nat.zero_le _, rfl, B_g1, K_0⟩
  ·
    clear hE a
    rintro i a w5 ⟨hE, hk9, hall, B_g1, K_0⟩
    refine wp_seq ?_
    rcases Decidable.em ((i : Int) < ((({ data := #[48, 49, 55] } : ByteArray)).size : Int)) with hK1 | hK1
    ·
      refine c_reg R55_5_l ?_
      refine q0 p55_5_0 hE (st_move rfl) ?_
      clear hE a; intro a hE
      refine q0 p55_5_1 hE (st_move rfl) ?_
      clear hE a; intro a hE
      refine q0 p55_5_2 hE (st_indexAddrA (l := 4) (i := 0) Try.underlying87 tS9 rfl rfl (by decide) rfl) ?_
      clear hE a; intro a hE
      refine q0 p55_5_3 hE (st_load1 tA9 rfl ((blk_cell B_g1 0).trans rfl)) ?_
      clear hE a; intro a hE
      refine q0 p55_5_4 hE (st_lenS Try.underlying9 rfl) ?_
      clear hE a; intro a hE
      refine q0 p55_5_5 hE (st_lss (b := true) rfl rfl (decide_eq_true hK1)) ?_
      clear hE a; intro a hE
      refine p_nil ?_
      refine x_norm ?_
      refine c_cond (t := true) hE rfl ?_
      refine wp_skip ?_
      refine x_norm ?_
      refine wp_seq ?_
      refine wp_block ?_
      have hbr := bt_range ({ data := #[48, 49, 55] } : ByteArray) (i : Int)
      rcases Decidable.em (bt ({ data := #[48, 49, 55] } : ByteArray) (i : Int) - 48 = x) with hEQ | hEQ
      ·
        refine c_reg R55_7_l ?_
        refine q0 p55_7_0 hE (st_move rfl) ?_
        clear hE a; intro a hE
        refine q0 p55_7_1 hE (st_indexAddrA (l := 4) (i := 0) Try.underlying87 tS9 rfl rfl (by decide) rfl) ?_
        clear hE a; intro a hE
        refine q0 p55_7_2 hE (st_load1 tA9 rfl ((blk_cell B_g1 0).trans rfl)) ?_
        clear hE a; intro a hE
        refine q0 p55_7_3 hE (st_move rfl) ?_
        clear hE a; intro a hE
        refine q0 p55_7_4 hE (st_indexS (i := i) Try.underlying9 rfl rfl (by omega)) ?_
        clear hE a; intro a hE
        refine q0 p55_7_5 hE (st_conv (z := (bt ({ data := #[48, 49, 55] } : ByteArray) (i : Int))) (by kernel_rfl) Try.underlying3 rfl (wr_i64 _ (by omega) (by omega))) ?_
        clear hE a; intro a hE
        refine q0 p55_7_6 hE (st_sub (z := (bt ({ data := #[48, 49, 55] } : ByteArray) (i : Int)) - 48) rfl rfl (wr_i64 _ (by omega) (by omega))) ?_
        clear hE a; intro a hE
        refine q0 p55_7_7 hE (st_move rfl) ?_
        clear hE a; intro a hE
        refine q0 p55_7_8 hE (st_eql (b := true) rfl rfl (decide_eq_true hEQ)) ?_
        clear hE a; intro a hE
        refine p_nil ?_
        refine x_norm ?_
        refine c_cond (t := true) hE rfl ?_
        refine c_reg R55_8_l ?_
        refine q0 p55_8_0 hE (st_assign rfl) ?_
        clear hE a; intro a hE
        refine p_nil ?_
        refine x_norm ?_
        refine wp_ret ?_
        refine x_retB ?_
        refine x_ret ?_
        refine x_ret ?_
        refine x_retB ?_
        refine x_ret ?_
        refine ret_one (v := Value.bool true) rfl hE (.tmp rfl .nil) ?_
        exact ⟨congrArg (fun b => Ending.returned (Value.bool b)) ((amongS_on (cstr 0) x i _ (by show i < 3; omega) hEQ).symm.trans (mayO_in 0 (by decide) x hx)), K_0⟩
      ·
        refine c_reg R55_7_l ?_
        refine q0 p55_7_0 hE (st_move rfl) ?_
        clear hE a; intro a hE
        refine q0 p55_7_1 hE (st_indexAddrA (l := 4) (i := 0) Try.underlying87 tS9 rfl rfl (by decide) rfl) ?_
        clear hE a; intro a hE
        refine q0 p55_7_2 hE (st_load1 tA9 rfl ((blk_cell B_g1 0).trans rfl)) ?_
        clear hE a; intro a hE
        refine q0 p55_7_3 hE (st_move rfl) ?_
        clear hE a; intro a hE
        refine q0 p55_7_4 hE (st_indexS (i := i) Try.underlying9 rfl rfl (by omega)) ?_
        clear hE a; intro a hE
        refine q0 p55_7_5 hE (st_conv (z := (bt ({ data := #[48, 49, 55] } : ByteArray) (i : Int))) (by kernel_rfl) Try.underlying3 rfl (wr_i64 _ (by omega) (by omega))) ?_
        clear hE a; intro a hE
        refine q0 p55_7_6 hE (st_sub (z := (bt ({ data := #[48, 49, 55] } : ByteArray) (i : Int)) - 48) rfl rfl (wr_i64 _ (by omega) (by omega))) ?_
        clear hE a; intro a hE
        refine q0 p55_7_7 hE (st_move rfl) ?_
        clear hE a; intro a hE
        refine q0 p55_7_8 hE (st_eql (b := false) rfl rfl (decide_eq_false hEQ)) ?_
        clear hE a; intro a hE
        refine p_nil ?_
        refine x_norm ?_
        refine c_cond (t := false) hE rfl ?_
        refine wp_skip ?_
        refine x_normB ?_
        refine x_norm ?_
        refine c_regL R55_6_l ?_
        refine q0 p55_6_0 hE (st_move rfl) ?_
        clear hE a; intro a hE
        refine q0 p55_6_1 hE (st_add (z := (i : Int) + 1) rfl rfl (wr_i64 _ (by omega) (by omega))) ?_
        clear hE a; intro a hE
        refine q0 p55_6_2 hE (st_assign rfl) ?_
        clear hE a; intro a hE
        refine p_nil ?_
        refine x_norm ?_
        have hno : amongS (cstr 0) x (i + 1) = false := by rw [amongS_succ, hall]; exact (Bool.false_or _).trans (decide_eq_false hEQ)
        exact ⟨i + 1, by omega, En.sub hE ⟨rfl, rfl, rfl, rfl, rfl, trivial⟩, by omega, hno, B_g1, K_0⟩
    ·
      refine c_reg R55_5_l ?_
      refine q0 p55_5_0 hE (st_move rfl) ?_
      clear hE a; intro a hE
      refine q0 p55_5_1 hE (st_move rfl) ?_
      clear hE a; intro a hE
      refine q0 p55_5_2 hE (st_indexAddrA (l := 4) (i := 0) Try.underlying87 tS9 rfl rfl (by decide) rfl) ?_
      clear hE a; intro a hE
      refine q0 p55_5_3 hE (st_load1 tA9 rfl ((blk_cell B_g1 0).trans rfl)) ?_
      clear hE a; intro a hE
      refine q0 p55_5_4 hE (st_lenS Try.underlying9 rfl) ?_
      clear hE a; intro a hE
      refine q0 p55_5_5 hE (st_lss (b := false) rfl rfl (decide_eq_false hK1)) ?_
      clear hE a; intro a hE
      refine p_nil ?_
      refine x_norm ?_
      refine c_cond (t := false) hE rfl ?_
      refine wp_exit ?_
      refine x_exit ?_
      refine x_exit ?_
      refine x_in ?_
      refine x_norm ?_
      refine c_reg R55_9_l ?_
      refine q0 p55_9_0 hE (st_assign rfl) ?_
      clear hE a; intro a hE
      refine p_nil ?_
      refine x_norm ?_
      refine wp_ret ?_
      refine ret_one (v := Value.bool false) rfl hE (.tmp rfl .nil) ?_
      obtain rfl : i = 3 := by omega
      exact ⟨congrArg (fun b => Ending.returned (Value.bool b)) (hall.symm.trans (mayO_in 0 (by decide) x hx)), K_0⟩

set_option maxHeartbeats 4000000 in
theorem rmay_1 (x : Int) (hx : 0 ≤ x ∧ x ≤ 9) (w : World) : Calls Try.prog 55 #[.int .i64 1, .int .i64 x] w fun e w' => e = .returned (.bool (mayO 1 x)) ∧ Kp w w' (fun _ => False) := by
  have K_0 := Kp.refl w (fun _ => False)
  have hsz : ({ data := #[48, 49, 50, 51, 52, 56] } : ByteArray).size = 6 := rfl
  refine enter (args := [Value.int .i64 1, Value.int .i64 x]) (n := 39) Try.func55 body55 rfl rfl rfl ?_
  intro a hE
  refine c_reg R55_0_l ?_
  refine q0 p55_0_0 hE (st_assign rfl) ?_
  clear hE a; intro a hE
  refine p_nil ?_
  refine x_norm ?_
  refine c_reg R55_1_l ?_
  refine q0 p55_1_0 hE (st_build (xs := [(0, Operand.const (Value.string { data := #[48, 49, 55] })), (1, Operand.const (Value.string { data := #[48, 49, 50, 51, 52, 56] })), (2, Operand.const (Value.string { data := #[48, 49, 53, 54, 57] })), (3, Operand.const (Value.string { data := #[48, 49] }))]) (vs := [(0, (Value.string { data := #[48, 49, 55] })), (1, (Value.string { data := #[48, 49, 50, 51, 52, 56] })), (2, (Value.string { data := #[48, 49, 53, 54, 57] })), (3, (Value.string { data := #[48, 49] }))]) (cs := #[(Value.string { data := #[48, 49, 55] }), (Value.string { data := #[48, 49, 50, 51, 52, 56] }), (Value.string { data := #[48, 49, 53, 54, 57] }), (Value.string { data := #[48, 49] })]) rfl (by kernel_rfl)) ?_
  clear hE a; intro a hE
  refine p_cons (s_alloc p55_1_1 hE wn_none rfl tZ87 ?_)
  clear hE a; intro g1 w2 z3 B_g1 hk a hE
  replace B_g1 : w2.heap[g1]? = some (.cells #[Value.string ByteArray.empty, Value.string ByteArray.empty, Value.string ByteArray.empty, Value.string ByteArray.empty] 87 (0, 0)) := B_g1
  have z_0_g1 := Nat.le_trans K_0.kept.1 z3
  replace K_0 := K_0.then_ hk (fun _ h => h.elim)
  clear hk
  refine p_cons (s_store (off := 0) (k := 4) (cs' := #[(Value.string { data := #[48, 49, 55] }), (Value.string { data := #[48, 49, 50, 51, 52, 56] }), (Value.string { data := #[48, 49, 53, 54, 57] }), (Value.string { data := #[48, 49] })]) p55_1_2 hE wn_none tS87 rfl rfl rfl rfl B_g1 (Nat.le_of_ble_eq_true rfl) rfl ?_)
  intro w4 B_g1' hk
  replace K_0 := K_0.then_ hk (fun k h => by rw [show k = g1 from h]; exact Or.inr z_0_g1)
  replace B_g1 := B_g1'
  clear hk
  refine p_nil ?_
  refine x_norm ?_
  refine wp_seq ?_
  refine c_reg R55_2_l ?_
  refine q0 p55_2_0 hE (st_move rfl) ?_
  clear hE a; intro a hE
  refine q0 p55_2_1 hE (st_lss (b := false) rfl rfl (by decide)) ?_
  clear hE a; intro a hE
  refine q0 p55_2_2 hE (st_move rfl) ?_
  clear hE a; intro a hE
  refine p_cons (s_still p55_2_3 hE (wn_some g55_2_2 rfl rfl) rfl (st_move rfl) ?_)
  clear hE a; intro a hE
  refine p_cons (s_still p55_2_4 hE (wn_some g55_2_2 rfl rfl) rfl (st_gtr (b := false) rfl rfl (by decide)) ?_)
  clear hE a; intro a hE
  refine q0 p55_2_5 hE (st_pick rfl rfl) ?_
  clear hE a; intro a hE
  refine q0 p55_2_6 hE (st_move rfl) ?_
  clear hE a; intro a hE
  refine p_cons (s_still p55_2_7 hE (wn_some g55_2_6 rfl rfl) rfl (st_move rfl) ?_)
  clear hE a; intro a hE
  refine p_cons (s_still p55_2_8 hE (wn_some g55_2_6 rfl rfl) rfl (st_lss (b := false) rfl rfl (decide_eq_false (by omega))) ?_)
  clear hE a; intro a hE
  refine q0 p55_2_9 hE (st_pick rfl rfl) ?_
  clear hE a; intro a hE
  refine q0 p55_2_10 hE (st_move rfl) ?_
  clear hE a; intro a hE
  refine p_cons (s_still p55_2_11 hE (wn_some g55_2_10 rfl rfl) rfl (st_move rfl) ?_)
  clear hE a; intro a hE
  refine p_cons (s_still p55_2_12 hE (wn_some g55_2_10 rfl rfl) rfl (st_gtr (b := false) rfl rfl (decide_eq_false (by omega))) ?_)
  clear hE a; intro a hE
  refine q0 p55_2_13 hE (st_pick rfl rfl) ?_
  clear hE a; intro a hE
  refine p_nil ?_
  refine x_norm ?_
  refine c_cond (t := false) hE rfl ?_
  refine wp_skip ?_
  refine x_norm ?_
  refine wp_seq ?_
  refine c_reg R55_4_l ?_
  refine q0 p55_4_0 hE (st_assign rfl) ?_
  clear hE a; intro a hE
  refine p_nil ?_
  refine x_norm ?_
  refine wp_block ?_
  refine c_loop (α := Nat) (fun i a W => En 39 a [(0, Value.int .i64 1), (1, Value.int .i64 x), (5, Value.pointer (some ⟨g1, 0, none⟩)), (21, Value.bool false), (6, Value.int .i64 (i : Int))] ∧ i ≤ 6 ∧ (amongS (cstr 1) x i = false) ∧ W.heap[g1]? = some (.cells #[(Value.string { data := #[48, 49, 55] }), (Value.string { data := #[48, 49, 50, 51, 52, 56] }), (Value.string { data := #[48, 49, 53, 54, 57] }), (Value.string { data := #[48, 49] })] 87 (0, 0)) ∧ Kp w W (fun _ => False)) (fun i => 6 - i) (0) ?_ ?_
  ·
    exact ⟨En.sub hE ⟨rfl, rfl, rfl, rfl, rfl, trivial⟩, Nat.zero_le _, rfl, B_g1, K_0⟩
  ·
    clear hE a
    rintro i a w5 ⟨hE, hk9, hall, B_g1, K_0⟩
    refine wp_seq ?_
    rcases Decidable.em ((i : Int) < ((({ data := #[48, 49, 50, 51, 52, 56] } : ByteArray)).size : Int)) with hK1 | hK1
    ·
      refine c_reg R55_5_l ?_
      refine q0 p55_5_0 hE (st_move rfl) ?_
      clear hE a; intro a hE
      refine q0 p55_5_1 hE (st_move rfl) ?_
      clear hE a; intro a hE
      refine q0 p55_5_2 hE (st_indexAddrA (l := 4) (i := 1) Try.underlying87 tS9 rfl rfl (by decide) rfl) ?_
      clear hE a; intro a hE
      refine q0 p55_5_3 hE (st_load1 tA9 rfl ((blk_cell B_g1 1).trans rfl)) ?_
      clear hE a; intro a hE
      refine q0 p55_5_4 hE (st_lenS Try.underlying9 rfl) ?_
      clear hE a; intro a hE
      refine q0 p55_5_5 hE (st_lss (b := true) rfl rfl (decide_eq_true hK1)) ?_
      clear hE a; intro a hE
      refine p_nil ?_
      refine x_norm ?_
      refine c_cond (t := true) hE rfl ?_
      refine wp_skip ?_
      refine x_norm ?_
      refine wp_seq ?_
      refine wp_block ?_
      have hbr := bt_range ({ data := #[48, 49, 50, 51, 52, 56] } : ByteArray) (i : Int)
      rcases Decidable.em (bt ({ data := #[48, 49, 50, 51, 52, 56] } : ByteArray) (i : Int) - 48 = x) with hEQ | hEQ
      ·
        refine c_reg R55_7_l ?_
        refine q0 p55_7_0 hE (st_move rfl) ?_
        clear hE a; intro a hE
        refine q0 p55_7_1 hE (st_indexAddrA (l := 4) (i := 1) Try.underlying87 tS9 rfl rfl (by decide) rfl) ?_
        clear hE a; intro a hE
        refine q0 p55_7_2 hE (st_load1 tA9 rfl ((blk_cell B_g1 1).trans rfl)) ?_
        clear hE a; intro a hE
        refine q0 p55_7_3 hE (st_move rfl) ?_
        clear hE a; intro a hE
        refine q0 p55_7_4 hE (st_indexS (i := i) Try.underlying9 rfl rfl (by omega)) ?_
        clear hE a; intro a hE
        refine q0 p55_7_5 hE (st_conv (z := (bt ({ data := #[48, 49, 50, 51, 52, 56] } : ByteArray) (i : Int))) (by kernel_rfl) Try.underlying3 rfl (wr_i64 _ (by omega) (by omega))) ?_
        clear hE a; intro a hE
        refine q0 p55_7_6 hE (st_sub (z := (bt ({ data := #[48, 49, 50, 51, 52, 56] } : ByteArray) (i : Int)) - 48) rfl rfl (wr_i64 _ (by omega) (by omega))) ?_
        clear hE a; intro a hE
        refine q0 p55_7_7 hE (st_move rfl) ?_
        clear hE a; intro a hE
        refine q0 p55_7_8 hE (st_eql (b := true) rfl rfl (decide_eq_true hEQ)) ?_
        clear hE a; intro a hE
        refine p_nil ?_
        refine x_norm ?_
        refine c_cond (t := true) hE rfl ?_
        refine c_reg R55_8_l ?_
        refine q0 p55_8_0 hE (st_assign rfl) ?_
        clear hE a; intro a hE
        refine p_nil ?_
        refine x_norm ?_
        refine wp_ret ?_
        refine x_retB ?_
        refine x_ret ?_
        refine x_ret ?_
        refine x_retB ?_
        refine x_ret ?_
        refine ret_one (v := Value.bool true) rfl hE (.tmp rfl .nil) ?_
        exact ⟨congrArg (fun b => Ending.returned (Value.bool b)) ((amongS_on (cstr 1) x i _ (by show i < 6; omega) hEQ).symm.trans (mayO_in 1 (by decide) x hx)), K_0⟩
      ·
        refine c_reg R55_7_l ?_
        refine q0 p55_7_0 hE (st_move rfl) ?_
        clear hE a; intro a hE
        refine q0 p55_7_1 hE (st_indexAddrA (l := 4) (i := 1) Try.underlying87 tS9 rfl rfl (by decide) rfl) ?_
        clear hE a; intro a hE
        refine q0 p55_7_2 hE (st_load1 tA9 rfl ((blk_cell B_g1 1).trans rfl)) ?_
        clear hE a; intro a hE
        refine q0 p55_7_3 hE (st_move rfl) ?_
        clear hE a; intro a hE
        refine q0 p55_7_4 hE (st_indexS (i := i) Try.underlying9 rfl rfl (by omega)) ?_
        clear hE a; intro a hE
        refine q0 p55_7_5 hE (st_conv (z := (bt ({ data := #[48, 49, 50, 51, 52, 56] } : ByteArray) (i : Int))) (by kernel_rfl) Try.underlying3 rfl (wr_i64 _ (by omega) (by omega))) ?_
        clear hE a; intro a hE
        refine q0 p55_7_6 hE (st_sub (z := (bt ({ data := #[48, 49, 50, 51, 52, 56] } : ByteArray) (i : Int)) - 48) rfl rfl (wr_i64 _ (by omega) (by omega))) ?_
        clear hE a; intro a hE
        refine q0 p55_7_7 hE (st_move rfl) ?_
        clear hE a; intro a hE
        refine q0 p55_7_8 hE (st_eql (b := false) rfl rfl (decide_eq_false hEQ)) ?_
        clear hE a; intro a hE
        refine p_nil ?_
        refine x_norm ?_
        refine c_cond (t := false) hE rfl ?_
        refine wp_skip ?_
        refine x_normB ?_
        refine x_norm ?_
        refine c_regL R55_6_l ?_
        refine q0 p55_6_0 hE (st_move rfl) ?_
        clear hE a; intro a hE
        refine q0 p55_6_1 hE (st_add (z := (i : Int) + 1) rfl rfl (wr_i64 _ (by omega) (by omega))) ?_
        clear hE a; intro a hE
        refine q0 p55_6_2 hE (st_assign rfl) ?_
        clear hE a; intro a hE
        refine p_nil ?_
        refine x_norm ?_
        have hno : amongS (cstr 1) x (i + 1) = false := by rw [amongS_succ, hall]; exact (Bool.false_or _).trans (decide_eq_false hEQ)
        exact ⟨i + 1, by omega, En.sub hE ⟨rfl, rfl, rfl, rfl, rfl, trivial⟩, by omega, hno, B_g1, K_0⟩
    ·
      refine c_reg R55_5_l ?_
      refine q0 p55_5_0 hE (st_move rfl) ?_
      clear hE a; intro a hE
      refine q0 p55_5_1 hE (st_move rfl) ?_
      clear hE a; intro a hE
      refine q0 p55_5_2 hE (st_indexAddrA (l := 4) (i := 1) Try.underlying87 tS9 rfl rfl (by decide) rfl) ?_
      clear hE a; intro a hE
      refine q0 p55_5_3 hE (st_load1 tA9 rfl ((blk_cell B_g1 1).trans rfl)) ?_
      clear hE a; intro a hE
      refine q0 p55_5_4 hE (st_lenS Try.underlying9 rfl) ?_
      clear hE a; intro a hE
      refine q0 p55_5_5 hE (st_lss (b := false) rfl rfl (decide_eq_false hK1)) ?_
      clear hE a; intro a hE
      refine p_nil ?_
      refine x_norm ?_
      refine c_cond (t := false) hE rfl ?_
      refine wp_exit ?_
      refine x_exit ?_
      refine x_exit ?_
      refine x_in ?_
      refine x_norm ?_
      refine c_reg R55_9_l ?_
      refine q0 p55_9_0 hE (st_assign rfl) ?_
      clear hE a; intro a hE
      refine p_nil ?_
      refine x_norm ?_
      refine wp_ret ?_
      refine ret_one (v := Value.bool false) rfl hE (.tmp rfl .nil) ?_
      obtain rfl : i = 6 := by omega
      exact ⟨congrArg (fun b => Ending.returned (Value.bool b)) (hall.symm.trans (mayO_in 1 (by decide) x hx)), K_0⟩

set_option maxHeartbeats 4000000 in
theorem rmay_2 (x : Int) (hx : 0 ≤ x ∧ x ≤ 9) (w : World) : Calls Try.prog 55 #[.int .i64 2, .int .i64 x] w fun e w' => e = .returned (.bool (mayO 2 x)) ∧ Kp w w' (fun _ => False) := by
  have K_0 := Kp.refl w (fun _ => False)
  have hsz : ({ data := #[48, 49, 53, 54, 57] } : ByteArray).size = 5 := rfl
  refine enter (args := [Value.int .i64 2, Value.int .i64 x]) (n := 39) Try.func55 body55 rfl rfl rfl ?_
  intro a hE
  refine c_reg R55_0_l ?_
  refine q0 p55_0_0 hE (st_assign rfl) ?_
  clear hE a; intro a hE
  refine p_nil ?_
  refine x_norm ?_
  refine c_reg R55_1_l ?_
  refine q0 p55_1_0 hE (st_build (xs := [(0, Operand.const (Value.string { data := #[48, 49, 55] })), (1, Operand.const (Value.string { data := #[48, 49, 50, 51, 52, 56] })), (2, Operand.const (Value.string { data := #[48, 49, 53, 54, 57] })), (3, Operand.const (Value.string { data := #[48, 49] }))]) (vs := [(0, (Value.string { data := #[48, 49, 55] })), (1, (Value.string { data := #[48, 49, 50, 51, 52, 56] })), (2, (Value.string { data := #[48, 49, 53, 54, 57] })), (3, (Value.string { data := #[48, 49] }))]) (cs := #[(Value.string { data := #[48, 49, 55] }), (Value.string { data := #[48, 49, 50, 51, 52, 56] }), (Value.string { data := #[48, 49, 53, 54, 57] }), (Value.string { data := #[48, 49] })]) rfl (by kernel_rfl)) ?_
  clear hE a; intro a hE
  refine p_cons (s_alloc p55_1_1 hE wn_none rfl tZ87 ?_)
  clear hE a; intro g1 w2 z3 B_g1 hk a hE
  replace B_g1 : w2.heap[g1]? = some (.cells #[Value.string ByteArray.empty, Value.string ByteArray.empty, Value.string ByteArray.empty, Value.string ByteArray.empty] 87 (0, 0)) := B_g1
  have z_0_g1 := Nat.le_trans K_0.kept.1 z3
  replace K_0 := K_0.then_ hk (fun _ h => h.elim)
  clear hk
  refine p_cons (s_store (off := 0) (k := 4) (cs' := #[(Value.string { data := #[48, 49, 55] }), (Value.string { data := #[48, 49, 50, 51, 52, 56] }), (Value.string { data := #[48, 49, 53, 54, 57] }), (Value.string { data := #[48, 49] })]) p55_1_2 hE wn_none tS87 rfl rfl rfl rfl B_g1 (Nat.le_of_ble_eq_true rfl) rfl ?_)
  intro w4 B_g1' hk
  replace K_0 := K_0.then_ hk (fun k h => by rw [show k = g1 from h]; exact Or.inr z_0_g1)
  replace B_g1 := B_g1'
  clear hk
  refine p_nil ?_
  refine x_norm ?_
  refine wp_seq ?_
  refine c_reg R55_2_l ?_
  refine q0 p55_2_0 hE (st_move rfl) ?_
  clear hE a; intro a hE
  refine q0 p55_2_1 hE (st_lss (b := false) rfl rfl (by decide)) ?_
  clear hE a; intro a hE
  refine q0 p55_2_2 hE (st_move rfl) ?_
  clear hE a; intro a hE
  refine p_cons (s_still p55_2_3 hE (wn_some g55_2_2 rfl rfl) rfl (st_move rfl) ?_)
  clear hE a; intro a hE
  refine p_cons (s_still p55_2_4 hE (wn_some g55_2_2 rfl rfl) rfl (st_gtr (b := false) rfl rfl (by decide)) ?_)
  clear hE a; intro a hE
  refine q0 p55_2_5 hE (st_pick rfl rfl) ?_
  clear hE a; intro a hE
  refine q0 p55_2_6 hE (st_move rfl) ?_
  clear hE a; intro a hE
  refine p_cons (s_still p55_2_7 hE (wn_some g55_2_6 rfl rfl) rfl (st_move rfl) ?_)
  clear hE a; intro a hE
  refine p_cons (s_still p55_2_8 hE (wn_some g55_2_6 rfl rfl) rfl (st_lss (b := false) rfl rfl (decide_eq_false (by omega))) ?_)
  clear hE a; intro a hE
  refine q0 p55_2_9 hE (st_pick rfl rfl) ?_
  clear hE a; intro a hE
  refine q0 p55_2_10 hE (st_move rfl) ?_
  clear hE a; intro a hE
  refine p_cons (s_still p55_2_11 hE (wn_some g55_2_10 rfl rfl) rfl (st_move rfl) ?_)
  clear hE a; intro a hE
  refine p_cons (s_still p55_2_12 hE (wn_some g55_2_10 rfl rfl) rfl (st_gtr (b := false) rfl rfl (decide_eq_false (by omega))) ?_)
  clear hE a; intro a hE
  refine q0 p55_2_13 hE (st_pick rfl rfl) ?_
  clear hE a; intro a hE
  refine p_nil ?_
  refine x_norm ?_
  refine c_cond (t := false) hE rfl ?_
  refine wp_skip ?_
  refine x_norm ?_
  refine wp_seq ?_
  refine c_reg R55_4_l ?_
  refine q0 p55_4_0 hE (st_assign rfl) ?_
  clear hE a; intro a hE
  refine p_nil ?_
  refine x_norm ?_
  refine wp_block ?_
  refine c_loop (α := Nat) (fun i a W => En 39 a [(0, Value.int .i64 2), (1, Value.int .i64 x), (5, Value.pointer (some ⟨g1, 0, none⟩)), (21, Value.bool false), (6, Value.int .i64 (i : Int))] ∧ i ≤ 5 ∧ (amongS (cstr 2) x i = false) ∧ W.heap[g1]? = some (.cells #[(Value.string { data := #[48, 49, 55] }), (Value.string { data := #[48, 49, 50, 51, 52, 56] }), (Value.string { data := #[48, 49, 53, 54, 57] }), (Value.string { data := #[48, 49] })] 87 (0, 0)) ∧ Kp w W (fun _ => False)) (fun i => 5 - i) (0) ?_ ?_
  ·
    exact ⟨En.sub hE ⟨rfl, rfl, rfl, rfl, rfl, trivial⟩, Nat.zero_le _, rfl, B_g1, K_0⟩
  ·
    clear hE a
    rintro i a w5 ⟨hE, hk9, hall, B_g1, K_0⟩
    refine wp_seq ?_
    rcases Decidable.em ((i : Int) < ((({ data := #[48, 49, 53, 54, 57] } : ByteArray)).size : Int)) with hK1 | hK1
    ·
      refine c_reg R55_5_l ?_
      refine q0 p55_5_0 hE (st_move rfl) ?_
      clear hE a; intro a hE
      refine q0 p55_5_1 hE (st_move rfl) ?_
      clear hE a; intro a hE
      refine q0 p55_5_2 hE (st_indexAddrA (l := 4) (i := 2) Try.underlying87 tS9 rfl rfl (by decide) rfl) ?_
      clear hE a; intro a hE
      refine q0 p55_5_3 hE (st_load1 tA9 rfl ((blk_cell B_g1 2).trans rfl)) ?_
      clear hE a; intro a hE
      refine q0 p55_5_4 hE (st_lenS Try.underlying9 rfl) ?_
      clear hE a; intro a hE
      refine q0 p55_5_5 hE (st_lss (b := true) rfl rfl (decide_eq_true hK1)) ?_
      clear hE a; intro a hE
      refine p_nil ?_
      refine x_norm ?_
      refine c_cond (t := true) hE rfl ?_
      refine wp_skip ?_
      refine x_norm ?_
      refine wp_seq ?_
      refine wp_block ?_
      have hbr := bt_range ({ data := #[48, 49, 53, 54, 57] } : ByteArray) (i : Int)
      rcases Decidable.em (bt ({ data := #[48, 49, 53, 54, 57] } : ByteArray) (i : Int) - 48 = x) with hEQ | hEQ
      ·
        refine c_reg R55_7_l ?_
        refine q0 p55_7_0 hE (st_move rfl) ?_
        clear hE a; intro a hE
        refine q0 p55_7_1 hE (st_indexAddrA (l := 4) (i := 2) Try.underlying87 tS9 rfl rfl (by decide) rfl) ?_
        clear hE a; intro a hE
        refine q0 p55_7_2 hE (st_load1 tA9 rfl ((blk_cell B_g1 2).trans rfl)) ?_
        clear hE a; intro a hE
        refine q0 p55_7_3 hE (st_move rfl) ?_
        clear hE a; intro a hE
        refine q0 p55_7_4 hE (st_indexS (i := i) Try.underlying9 rfl rfl (by omega)) ?_
        clear hE a; intro a hE
        refine q0 p55_7_5 hE (st_conv (z := (bt ({ data := #[48, 49, 53, 54, 57] } : ByteArray) (i : Int))) (by kernel_rfl) Try.underlying3 rfl (wr_i64 _ (by omega) (by omega))) ?_
        clear hE a; intro a hE
        refine q0 p55_7_6 hE (st_sub (z := (bt ({ data := #[48, 49, 53, 54, 57] } : ByteArray) (i : Int)) - 48) rfl rfl (wr_i64 _ (by omega) (by omega))) ?_
        clear hE a; intro a hE
        refine q0 p55_7_7 hE (st_move rfl) ?_
        clear hE a; intro a hE
        refine q0 p55_7_8 hE (st_eql (b := true) rfl rfl (decide_eq_true hEQ)) ?_
        clear hE a; intro a hE
        refine p_nil ?_
        refine x_norm ?_
        refine c_cond (t := true) hE rfl ?_
        refine c_reg R55_8_l ?_
        refine q0 p55_8_0 hE (st_assign rfl) ?_
        clear hE a; intro a hE
        refine p_nil ?_
        refine x_norm ?_
        refine wp_ret ?_
        refine x_retB ?_
        refine x_ret ?_
        refine x_ret ?_
        refine x_retB ?_
        refine x_ret ?_
        refine ret_one (v := Value.bool true) rfl hE (.tmp rfl .nil) ?_
        exact ⟨congrArg (fun b => Ending.returned (Value.bool b)) ((amongS_on (cstr 2) x i _ (by show i < 5; omega) hEQ).symm.trans (mayO_in 2 (by decide) x hx)), K_0⟩
      ·
        refine c_reg R55_7_l ?_
        refine q0 p55_7_0 hE (st_move rfl) ?_
        clear hE a; intro a hE
        refine q0 p55_7_1 hE (st_indexAddrA (l := 4) (i := 2) Try.underlying87 tS9 rfl rfl (by decide) rfl) ?_
        clear hE a; intro a hE
        refine q0 p55_7_2 hE (st_load1 tA9 rfl ((blk_cell B_g1 2).trans rfl)) ?_
        clear hE a; intro a hE
        refine q0 p55_7_3 hE (st_move rfl) ?_
        clear hE a; intro a hE
        refine q0 p55_7_4 hE (st_indexS (i := i) Try.underlying9 rfl rfl (by omega)) ?_
        clear hE a; intro a hE
        refine q0 p55_7_5 hE (st_conv (z := (bt ({ data := #[48, 49, 53, 54, 57] } : ByteArray) (i : Int))) (by kernel_rfl) Try.underlying3 rfl (wr_i64 _ (by omega) (by omega))) ?_
        clear hE a; intro a hE
        refine q0 p55_7_6 hE (st_sub (z := (bt ({ data := #[48, 49, 53, 54, 57] } : ByteArray) (i : Int)) - 48) rfl rfl (wr_i64 _ (by omega) (by omega))) ?_
        clear hE a; intro a hE
        refine q0 p55_7_7 hE (st_move rfl) ?_
        clear hE a; intro a hE
        refine q0 p55_7_8 hE (st_eql (b := false) rfl rfl (decide_eq_false hEQ)) ?_
        clear hE a; intro a hE
        refine p_nil ?_
        refine x_norm ?_
        refine c_cond (t := false) hE rfl ?_
        refine wp_skip ?_
        refine x_normB ?_
        refine x_norm ?_
        refine c_regL R55_6_l ?_
        refine q0 p55_6_0 hE (st_move rfl) ?_
        clear hE a; intro a hE
        refine q0 p55_6_1 hE (st_add (z := (i : Int) + 1) rfl rfl (wr_i64 _ (by omega) (by omega))) ?_
        clear hE a; intro a hE
        refine q0 p55_6_2 hE (st_assign rfl) ?_
        clear hE a; intro a hE
        refine p_nil ?_
        refine x_norm ?_
        have hno : amongS (cstr 2) x (i + 1) = false := by rw [amongS_succ, hall]; exact (Bool.false_or _).trans (decide_eq_false hEQ)
        exact ⟨i + 1, by omega, En.sub hE ⟨rfl, rfl, rfl, rfl, rfl, trivial⟩, by omega, hno, B_g1, K_0⟩
    ·
      refine c_reg R55_5_l ?_
      refine q0 p55_5_0 hE (st_move rfl) ?_
      clear hE a; intro a hE
      refine q0 p55_5_1 hE (st_move rfl) ?_
      clear hE a; intro a hE
      refine q0 p55_5_2 hE (st_indexAddrA (l := 4) (i := 2) Try.underlying87 tS9 rfl rfl (by decide) rfl) ?_
      clear hE a; intro a hE
      refine q0 p55_5_3 hE (st_load1 tA9 rfl ((blk_cell B_g1 2).trans rfl)) ?_
      clear hE a; intro a hE
      refine q0 p55_5_4 hE (st_lenS Try.underlying9 rfl) ?_
      clear hE a; intro a hE
      refine q0 p55_5_5 hE (st_lss (b := false) rfl rfl (decide_eq_false hK1)) ?_
      clear hE a; intro a hE
      refine p_nil ?_
      refine x_norm ?_
      refine c_cond (t := false) hE rfl ?_
      refine wp_exit ?_
      refine x_exit ?_
      refine x_exit ?_
      refine x_in ?_
      refine x_norm ?_
      refine c_reg R55_9_l ?_
      refine q0 p55_9_0 hE (st_assign rfl) ?_
      clear hE a; intro a hE
      refine p_nil ?_
      refine x_norm ?_
      refine wp_ret ?_
      refine ret_one (v := Value.bool false) rfl hE (.tmp rfl .nil) ?_
      obtain rfl : i = 5 := by omega
      exact ⟨congrArg (fun b => Ending.returned (Value.bool b)) (hall.symm.trans (mayO_in 2 (by decide) x hx)), K_0⟩

set_option maxHeartbeats 4000000 in
theorem rmay_3 (x : Int) (hx : 0 ≤ x ∧ x ≤ 9) (w : World) : Calls Try.prog 55 #[.int .i64 3, .int .i64 x] w fun e w' => e = .returned (.bool (mayO 3 x)) ∧ Kp w w' (fun _ => False) := by
  have K_0 := Kp.refl w (fun _ => False)
  have hsz : ({ data := #[48, 49] } : ByteArray).size = 2 := rfl
  refine enter (args := [Value.int .i64 3, Value.int .i64 x]) (n := 39) Try.func55 body55 rfl rfl rfl ?_
  intro a hE
  refine c_reg R55_0_l ?_
  refine q0 p55_0_0 hE (st_assign rfl) ?_
  clear hE a; intro a hE
  refine p_nil ?_
  refine x_norm ?_
  refine c_reg R55_1_l ?_
  refine q0 p55_1_0 hE (st_build (xs := [(0, Operand.const (Value.string { data := #[48, 49, 55] })), (1, Operand.const (Value.string { data := #[48, 49, 50, 51, 52, 56] })), (2, Operand.const (Value.string { data := #[48, 49, 53, 54, 57] })), (3, Operand.const (Value.string { data := #[48, 49] }))]) (vs := [(0, (Value.string { data := #[48, 49, 55] })), (1, (Value.string { data := #[48, 49, 50, 51, 52, 56] })), (2, (Value.string { data := #[48, 49, 53, 54, 57] })), (3, (Value.string { data := #[48, 49] }))]) (cs := #[(Value.string { data := #[48, 49, 55] }), (Value.string { data := #[48, 49, 50, 51, 52, 56] }), (Value.string { data := #[48, 49, 53, 54, 57] }), (Value.string { data := #[48, 49] })]) rfl (by kernel_rfl)) ?_
  clear hE a; intro a hE
  refine p_cons (s_alloc p55_1_1 hE wn_none rfl tZ87 ?_)
  clear hE a; intro g1 w2 z3 B_g1 hk a hE
  replace B_g1 : w2.heap[g1]? = some (.cells #[Value.string ByteArray.empty, Value.string ByteArray.empty, Value.string ByteArray.empty, Value.string ByteArray.empty] 87 (0, 0)) := B_g1
  have z_0_g1 := Nat.le_trans K_0.kept.1 z3
  replace K_0 := K_0.then_ hk (fun _ h => h.elim)
  clear hk
  refine p_cons (s_store (off := 0) (k := 4) (cs' := #[(Value.string { data := #[48, 49, 55] }), (Value.string { data := #[48, 49, 50, 51, 52, 56] }), (Value.string { data := #[48, 49, 53, 54, 57] }), (Value.string { data := #[48, 49] })]) p55_1_2 hE wn_none tS87 rfl rfl rfl rfl B_g1 (Nat.le_of_ble_eq_true rfl) rfl ?_)
  intro w4 B_g1' hk
  replace K_0 := K_0.then_ hk (fun k h => by rw [show k = g1 from h]; exact Or.inr z_0_g1)
  replace B_g1 := B_g1'
  clear hk
  refine p_nil ?_
  refine x_norm ?_
  refine wp_seq ?_
  refine c_reg R55_2_l ?_
  refine q0 p55_2_0 hE (st_move rfl) ?_
  clear hE a; intro a hE
  refine q0 p55_2_1 hE (st_lss (b := false) rfl rfl (by decide)) ?_
  clear hE a; intro a hE
  refine q0 p55_2_2 hE (st_move rfl) ?_
  clear hE a; intro a hE
  refine p_cons (s_still p55_2_3 hE (wn_some g55_2_2 rfl rfl) rfl (st_move rfl) ?_)
  clear hE a; intro a hE
  refine p_cons (s_still p55_2_4 hE (wn_some g55_2_2 rfl rfl) rfl (st_gtr (b := false) rfl rfl (by decide)) ?_)
  clear hE a; intro a hE
  refine q0 p55_2_5 hE (st_pick rfl rfl) ?_
  clear hE a; intro a hE
  refine q0 p55_2_6 hE (st_move rfl) ?_
  clear hE a; intro a hE
  refine p_cons (s_still p55_2_7 hE (wn_some g55_2_6 rfl rfl) rfl (st_move rfl) ?_)
  clear hE a; intro a hE
  refine p_cons (s_still p55_2_8 hE (wn_some g55_2_6 rfl rfl) rfl (st_lss (b := false) rfl rfl (decide_eq_false (by omega))) ?_)
  clear hE a; intro a hE
  refine q0 p55_2_9 hE (st_pick rfl rfl) ?_
  clear hE a; intro a hE
  refine q0 p55_2_10 hE (st_move rfl) ?_
  clear hE a; intro a hE
  refine p_cons (s_still p55_2_11 hE (wn_some g55_2_10 rfl rfl) rfl (st_move rfl) ?_)
  clear hE a; intro a hE
  refine p_cons (s_still p55_2_12 hE (wn_some g55_2_10 rfl rfl) rfl (st_gtr (b := false) rfl rfl (decide_eq_false (by omega))) ?_)
  clear hE a; intro a hE
  refine q0 p55_2_13 hE (st_pick rfl rfl) ?_
  clear hE a; intro a hE
  refine p_nil ?_
  refine x_norm ?_
  refine c_cond (t := false) hE rfl ?_
  refine wp_skip ?_
  refine x_norm ?_
  refine wp_seq ?_
  refine c_reg R55_4_l ?_
  refine q0 p55_4_0 hE (st_assign rfl) ?_
  clear hE a; intro a hE
  refine p_nil ?_
  refine x_norm ?_
  refine wp_block ?_
  refine c_loop (α := Nat) (fun i a W => En 39 a [(0, Value.int .i64 3), (1, Value.int .i64 x), (5, Value.pointer (some ⟨g1, 0, none⟩)), (21, Value.bool false), (6, Value.int .i64 (i : Int))] ∧ i ≤ 2 ∧ (amongS (cstr 3) x i = false) ∧ W.heap[g1]? = some (.cells #[(Value.string { data := #[48, 49, 55] }), (Value.string { data := #[48, 49, 50, 51, 52, 56] }), (Value.string { data := #[48, 49, 53, 54, 57] }), (Value.string { data := #[48, 49] })] 87 (0, 0)) ∧ Kp w W (fun _ => False)) (fun i => 2 - i) (0) ?_ ?_
  ·
    exact ⟨En.sub hE ⟨rfl, rfl, rfl, rfl, rfl, trivial⟩, Nat.zero_le _, rfl, B_g1, K_0⟩
  ·
    clear hE a
    rintro i a w5 ⟨hE, hk9, hall, B_g1, K_0⟩
    refine wp_seq ?_
    rcases Decidable.em ((i : Int) < ((({ data := #[48, 49] } : ByteArray)).size : Int)) with hK1 | hK1
    ·
      refine c_reg R55_5_l ?_
      refine q0 p55_5_0 hE (st_move rfl) ?_
      clear hE a; intro a hE
      refine q0 p55_5_1 hE (st_move rfl) ?_
      clear hE a; intro a hE
      refine q0 p55_5_2 hE (st_indexAddrA (l := 4) (i := 3) Try.underlying87 tS9 rfl rfl (by decide) rfl) ?_
      clear hE a; intro a hE
      refine q0 p55_5_3 hE (st_load1 tA9 rfl ((blk_cell B_g1 3).trans rfl)) ?_
      clear hE a; intro a hE
      refine q0 p55_5_4 hE (st_lenS Try.underlying9 rfl) ?_
      clear hE a; intro a hE
      refine q0 p55_5_5 hE (st_lss (b := true) rfl rfl (decide_eq_true hK1)) ?_
      clear hE a; intro a hE
      refine p_nil ?_
      refine x_norm ?_
      refine c_cond (t := true) hE rfl ?_
      refine wp_skip ?_
      refine x_norm ?_
      refine wp_seq ?_
      refine wp_block ?_
      have hbr := bt_range ({ data := #[48, 49] } : ByteArray) (i : Int)
      rcases Decidable.em (bt ({ data := #[48, 49] } : ByteArray) (i : Int) - 48 = x) with hEQ | hEQ
      ·
        refine c_reg R55_7_l ?_
        refine q0 p55_7_0 hE (st_move rfl) ?_
        clear hE a; intro a hE
        refine q0 p55_7_1 hE (st_indexAddrA (l := 4) (i := 3) Try.underlying87 tS9 rfl rfl (by decide) rfl) ?_
        clear hE a; intro a hE
        refine q0 p55_7_2 hE (st_load1 tA9 rfl ((blk_cell B_g1 3).trans rfl)) ?_
        clear hE a; intro a hE
        refine q0 p55_7_3 hE (st_move rfl) ?_
        clear hE a; intro a hE
        refine q0 p55_7_4 hE (st_indexS (i := i) Try.underlying9 rfl rfl (by omega)) ?_
        clear hE a; intro a hE
        refine q0 p55_7_5 hE (st_conv (z := (bt ({ data := #[48, 49] } : ByteArray) (i : Int))) (by kernel_rfl) Try.underlying3 rfl (wr_i64 _ (by omega) (by omega))) ?_
        clear hE a; intro a hE
        refine q0 p55_7_6 hE (st_sub (z := (bt ({ data := #[48, 49] } : ByteArray) (i : Int)) - 48) rfl rfl (wr_i64 _ (by omega) (by omega))) ?_
        clear hE a; intro a hE
        refine q0 p55_7_7 hE (st_move rfl) ?_
        clear hE a; intro a hE
        refine q0 p55_7_8 hE (st_eql (b := true) rfl rfl (decide_eq_true hEQ)) ?_
        clear hE a; intro a hE
        refine p_nil ?_
        refine x_norm ?_
        refine c_cond (t := true) hE rfl ?_
        refine c_reg R55_8_l ?_
        refine q0 p55_8_0 hE (st_assign rfl) ?_
        clear hE a; intro a hE
        refine p_nil ?_
        refine x_norm ?_
        refine wp_ret ?_
        refine x_retB ?_
        refine x_ret ?_
        refine x_ret ?_
        refine x_retB ?_
        refine x_ret ?_
        refine ret_one (v := Value.bool true) rfl hE (.tmp rfl .nil) ?_
        exact ⟨congrArg (fun b => Ending.returned (Value.bool b)) ((amongS_on (cstr 3) x i _ (by show i < 2; omega) hEQ).symm.trans (mayO_in 3 (by decide) x hx)), K_0⟩
      ·
        refine c_reg R55_7_l ?_
        refine q0 p55_7_0 hE (st_move rfl) ?_
        clear hE a; intro a hE
        refine q0 p55_7_1 hE (st_indexAddrA (l := 4) (i := 3) Try.underlying87 tS9 rfl rfl (by decide) rfl) ?_
        clear hE a; intro a hE
        refine q0 p55_7_2 hE (st_load1 tA9 rfl ((blk_cell B_g1 3).trans rfl)) ?_
        clear hE a; intro a hE
        refine q0 p55_7_3 hE (st_move rfl) ?_
        clear hE a; intro a hE
        refine q0 p55_7_4 hE (st_indexS (i := i) Try.underlying9 rfl rfl (by omega)) ?_
        clear hE a; intro a hE
        refine q0 p55_7_5 hE (st_conv (z := (bt ({ data := #[48, 49] } : ByteArray) (i : Int))) (by kernel_rfl) Try.underlying3 rfl (wr_i64 _ (by omega) (by omega))) ?_
        clear hE a; intro a hE
        refine q0 p55_7_6 hE (st_sub (z := (bt ({ data := #[48, 49] } : ByteArray) (i : Int)) - 48) rfl rfl (wr_i64 _ (by omega) (by omega))) ?_
        clear hE a; intro a hE
        refine q0 p55_7_7 hE (st_move rfl) ?_
        clear hE a; intro a hE
        refine q0 p55_7_8 hE (st_eql (b := false) rfl rfl (decide_eq_false hEQ)) ?_
        clear hE a; intro a hE
        refine p_nil ?_
        refine x_norm ?_
        refine c_cond (t := false) hE rfl ?_
        refine wp_skip ?_
        refine x_normB ?_
        refine x_norm ?_
        refine c_regL R55_6_l ?_
        refine q0 p55_6_0 hE (st_move rfl) ?_
        clear hE a; intro a hE
        refine q0 p55_6_1 hE (st_add (z := (i : Int) + 1) rfl rfl (wr_i64 _ (by omega) (by omega))) ?_
        clear hE a; intro a hE
        refine q0 p55_6_2 hE (st_assign rfl) ?_
        clear hE a; intro a hE
        refine p_nil ?_
        refine x_norm ?_
        have hno : amongS (cstr 3) x (i + 1) = false := by rw [amongS_succ, hall]; exact (Bool.false_or _).trans (decide_eq_false hEQ)
        exact ⟨i + 1, by omega, En.sub hE ⟨rfl, rfl, rfl, rfl, rfl, trivial⟩, by omega, hno, B_g1, K_0⟩
    ·
      refine c_reg R55_5_l ?_
      refine q0 p55_5_0 hE (st_move rfl) ?_
      clear hE a; intro a hE
      refine q0 p55_5_1 hE (st_move rfl) ?_
      clear hE a; intro a hE
      refine q0 p55_5_2 hE (st_indexAddrA (l := 4) (i := 3) Try.underlying87 tS9 rfl rfl (by decide) rfl) ?_
      clear hE a; intro a hE
      refine q0 p55_5_3 hE (st_load1 tA9 rfl ((blk_cell B_g1 3).trans rfl)) ?_
      clear hE a; intro a hE
      refine q0 p55_5_4 hE (st_lenS Try.underlying9 rfl) ?_
      clear hE a; intro a hE
      refine q0 p55_5_5 hE (st_lss (b := false) rfl rfl (decide_eq_false hK1)) ?_
      clear hE a; intro a hE
      refine p_nil ?_
      refine x_norm ?_
      refine c_cond (t := false) hE rfl ?_
      refine wp_exit ?_
      refine x_exit ?_
      refine x_exit ?_
      refine x_in ?_
      refine x_norm ?_
      refine c_reg R55_9_l ?_
      refine q0 p55_9_0 hE (st_assign rfl) ?_
      clear hE a; intro a hE
      refine p_nil ?_
      refine x_norm ?_
      refine wp_ret ?_
      refine ret_one (v := Value.bool false) rfl hE (.tmp rfl .nil) ?_
      obtain rfl : i = 2 := by omega
      exact ⟨congrArg (fun b => Ending.returned (Value.bool b)) (hall.symm.trans (mayO_in 3 (by decide) x hx)), K_0⟩
theorem p55_3_0 : pj (regOf Try.f55 3) 0 = some (some 4, .assign (.const (.bool false)), 4, none) := by kernel_rfl
set_option maxHeartbeats 4000000 in
theorem rmay_no (k x : Int) (h : ¬ ((0 ≤ k ∧ k ≤ 3) ∧ 0 ≤ x ∧ x ≤ 9)) (w : World) : Calls Try.prog 55 #[.int .i64 k, .int .i64 x] w fun e w' => e = .returned (.bool (mayO k x)) ∧ Kp w w' (fun _ => False) := by
  have K_0 := Kp.refl w (fun _ => False)
  refine enter (args := [Value.int .i64 k, Value.int .i64 x]) (n := 39) Try.func55 body55 rfl rfl rfl ?_
  intro a hE
  refine c_reg R55_0_l ?_
  refine q0 p55_0_0 hE (st_assign rfl) ?_
  clear hE a; intro a hE
  refine p_nil ?_
  refine x_norm ?_
  refine c_reg R55_1_l ?_
  refine q0 p55_1_0 hE (st_build (xs := [(0, Operand.const (Value.string { data := #[48, 49, 55] })), (1, Operand.const (Value.string { data := #[48, 49, 50, 51, 52, 56] })), (2, Operand.const (Value.string { data := #[48, 49, 53, 54, 57] })), (3, Operand.const (Value.string { data := #[48, 49] }))]) (vs := [(0, (Value.string { data := #[48, 49, 55] })), (1, (Value.string { data := #[48, 49, 50, 51, 52, 56] })), (2, (Value.string { data := #[48, 49, 53, 54, 57] })), (3, (Value.string { data := #[48, 49] }))]) (cs := #[(Value.string { data := #[48, 49, 55] }), (Value.string { data := #[48, 49, 50, 51, 52, 56] }), (Value.string { data := #[48, 49, 53, 54, 57] }), (Value.string { data := #[48, 49] })]) rfl (by kernel_rfl)) ?_
  clear hE a; intro a hE
  refine p_cons (s_alloc p55_1_1 hE wn_none rfl tZ87 ?_)
  clear hE a; intro g1 w2 z3 B_g1 hk a hE
  replace B_g1 : w2.heap[g1]? = some (.cells #[Value.string ByteArray.empty, Value.string ByteArray.empty, Value.string ByteArray.empty, Value.string ByteArray.empty] 87 (0, 0)) := B_g1
  have z_0_g1 := Nat.le_trans K_0.kept.1 z3
  replace K_0 := K_0.then_ hk (fun _ h => h.elim)
  clear hk
  refine p_cons (s_store (off := 0) (k := 4) (cs' := #[(Value.string { data := #[48, 49, 55] }), (Value.string { data := #[48, 49, 50, 51, 52, 56] }), (Value.string { data := #[48, 49, 53, 54, 57] }), (Value.string { data := #[48, 49] })]) p55_1_2 hE wn_none tS87 rfl rfl rfl rfl B_g1 (Nat.le_of_ble_eq_true rfl) rfl ?_)
  intro w4 B_g1' hk
  replace K_0 := K_0.then_ hk (fun k h => by rw [show k = g1 from h]; exact Or.inr z_0_g1)
  replace B_g1 := B_g1'
  clear hk
  refine p_nil ?_
  refine x_norm ?_
  refine wp_seq ?_
  rcases Decidable.em (k < 0) with hP1 | hP1
  ·
    refine c_reg R55_2_l ?_
    refine q0 p55_2_0 hE (st_move rfl) ?_
    clear hE a; intro a hE
    refine q0 p55_2_1 hE (st_lss (b := true) rfl rfl (decide_eq_true hP1)) ?_
    clear hE a; intro a hE
    refine q0 p55_2_2 hE (st_move rfl) ?_
    clear hE a; intro a hE
    refine p_cons (s_skip p55_2_3 hE (wn_some g55_2_2 rfl rfl) rfl ?_)
    clear hE a; intro a hE
    refine p_cons (s_skip p55_2_4 hE (wn_some g55_2_2 rfl rfl) rfl ?_)
    clear hE a; intro a hE
    refine q0 p55_2_5 hE (st_pick rfl rfl) ?_
    clear hE a; intro a hE
    refine q0 p55_2_6 hE (st_move rfl) ?_
    clear hE a; intro a hE
    refine p_cons (s_skip p55_2_7 hE (wn_some g55_2_6 rfl rfl) rfl ?_)
    clear hE a; intro a hE
    refine p_cons (s_skip p55_2_8 hE (wn_some g55_2_6 rfl rfl) rfl ?_)
    clear hE a; intro a hE
    refine q0 p55_2_9 hE (st_pick rfl rfl) ?_
    clear hE a; intro a hE
    refine q0 p55_2_10 hE (st_move rfl) ?_
    clear hE a; intro a hE
    refine p_cons (s_skip p55_2_11 hE (wn_some g55_2_10 rfl rfl) rfl ?_)
    clear hE a; intro a hE
    refine p_cons (s_skip p55_2_12 hE (wn_some g55_2_10 rfl rfl) rfl ?_)
    clear hE a; intro a hE
    refine q0 p55_2_13 hE (st_pick rfl rfl) ?_
    clear hE a; intro a hE
    refine p_nil ?_
    refine x_norm ?_
    refine c_cond (t := true) hE rfl ?_
    refine c_reg R55_3_l ?_
    refine q0 p55_3_0 hE (st_assign rfl) ?_
    clear hE a; intro a hE
    refine p_nil ?_
    refine x_norm ?_
    refine wp_ret ?_
    refine x_ret ?_
    refine ret_one (v := Value.bool false) rfl hE (.tmp rfl .nil) ?_
    exact ⟨by rw [mayO_out k x h], K_0⟩
  ·
    rcases Decidable.em (3 < k) with hP2 | hP2
    ·
      refine c_reg R55_2_l ?_
      refine q0 p55_2_0 hE (st_move rfl) ?_
      clear hE a; intro a hE
      refine q0 p55_2_1 hE (st_lss (b := false) rfl rfl (decide_eq_false hP1)) ?_
      clear hE a; intro a hE
      refine q0 p55_2_2 hE (st_move rfl) ?_
      clear hE a; intro a hE
      refine p_cons (s_still p55_2_3 hE (wn_some g55_2_2 rfl rfl) rfl (st_move rfl) ?_)
      clear hE a; intro a hE
      refine p_cons (s_still p55_2_4 hE (wn_some g55_2_2 rfl rfl) rfl (st_gtr (b := true) rfl rfl (decide_eq_true hP2)) ?_)
      clear hE a; intro a hE
      refine q0 p55_2_5 hE (st_pick rfl rfl) ?_
      clear hE a; intro a hE
      refine q0 p55_2_6 hE (st_move rfl) ?_
      clear hE a; intro a hE
      refine p_cons (s_skip p55_2_7 hE (wn_some g55_2_6 rfl rfl) rfl ?_)
      clear hE a; intro a hE
      refine p_cons (s_skip p55_2_8 hE (wn_some g55_2_6 rfl rfl) rfl ?_)
      clear hE a; intro a hE
      refine q0 p55_2_9 hE (st_pick rfl rfl) ?_
      clear hE a; intro a hE
      refine q0 p55_2_10 hE (st_move rfl) ?_
      clear hE a; intro a hE
      refine p_cons (s_skip p55_2_11 hE (wn_some g55_2_10 rfl rfl) rfl ?_)
      clear hE a; intro a hE
      refine p_cons (s_skip p55_2_12 hE (wn_some g55_2_10 rfl rfl) rfl ?_)
      clear hE a; intro a hE
      refine q0 p55_2_13 hE (st_pick rfl rfl) ?_
      clear hE a; intro a hE
      refine p_nil ?_
      refine x_norm ?_
      refine c_cond (t := true) hE rfl ?_
      refine c_reg R55_3_l ?_
      refine q0 p55_3_0 hE (st_assign rfl) ?_
      clear hE a; intro a hE
      refine p_nil ?_
      refine x_norm ?_
      refine wp_ret ?_
      refine x_ret ?_
      refine ret_one (v := Value.bool false) rfl hE (.tmp rfl .nil) ?_
      exact ⟨by rw [mayO_out k x h], K_0⟩
    ·
      rcases Decidable.em (x < 0) with hP3 | hP3
      ·
        refine c_reg R55_2_l ?_
        refine q0 p55_2_0 hE (st_move rfl) ?_
        clear hE a; intro a hE
        refine q0 p55_2_1 hE (st_lss (b := false) rfl rfl (decide_eq_false hP1)) ?_
        clear hE a; intro a hE
        refine q0 p55_2_2 hE (st_move rfl) ?_
        clear hE a; intro a hE
        refine p_cons (s_still p55_2_3 hE (wn_some g55_2_2 rfl rfl) rfl (st_move rfl) ?_)
        clear hE a; intro a hE
        refine p_cons (s_still p55_2_4 hE (wn_some g55_2_2 rfl rfl) rfl (st_gtr (b := false) rfl rfl (decide_eq_false hP2)) ?_)
        clear hE a; intro a hE
        refine q0 p55_2_5 hE (st_pick rfl rfl) ?_
        clear hE a; intro a hE
        refine q0 p55_2_6 hE (st_move rfl) ?_
        clear hE a; intro a hE
        refine p_cons (s_still p55_2_7 hE (wn_some g55_2_6 rfl rfl) rfl (st_move rfl) ?_)
        clear hE a; intro a hE
        refine p_cons (s_still p55_2_8 hE (wn_some g55_2_6 rfl rfl) rfl (st_lss (b := true) rfl rfl (decide_eq_true hP3)) ?_)
        clear hE a; intro a hE
        refine q0 p55_2_9 hE (st_pick rfl rfl) ?_
        clear hE a; intro a hE
        refine q0 p55_2_10 hE (st_move rfl) ?_
        clear hE a; intro a hE
        refine p_cons (s_skip p55_2_11 hE (wn_some g55_2_10 rfl rfl) rfl ?_)
        clear hE a; intro a hE
        refine p_cons (s_skip p55_2_12 hE (wn_some g55_2_10 rfl rfl) rfl ?_)
        clear hE a; intro a hE
        refine q0 p55_2_13 hE (st_pick rfl rfl) ?_
        clear hE a; intro a hE
        refine p_nil ?_
        refine x_norm ?_
        refine c_cond (t := true) hE rfl ?_
        refine c_reg R55_3_l ?_
        refine q0 p55_3_0 hE (st_assign rfl) ?_
        clear hE a; intro a hE
        refine p_nil ?_
        refine x_norm ?_
        refine wp_ret ?_
        refine x_ret ?_
        refine ret_one (v := Value.bool false) rfl hE (.tmp rfl .nil) ?_
        exact ⟨by rw [mayO_out k x h], K_0⟩
      ·
        refine c_reg R55_2_l ?_
        refine q0 p55_2_0 hE (st_move rfl) ?_
        clear hE a; intro a hE
        refine q0 p55_2_1 hE (st_lss (b := false) rfl rfl (decide_eq_false hP1)) ?_
        clear hE a; intro a hE
        refine q0 p55_2_2 hE (st_move rfl) ?_
        clear hE a; intro a hE
        refine p_cons (s_still p55_2_3 hE (wn_some g55_2_2 rfl rfl) rfl (st_move rfl) ?_)
        clear hE a; intro a hE
        refine p_cons (s_still p55_2_4 hE (wn_some g55_2_2 rfl rfl) rfl (st_gtr (b := false) rfl rfl (decide_eq_false hP2)) ?_)
        clear hE a; intro a hE
        refine q0 p55_2_5 hE (st_pick rfl rfl) ?_
        clear hE a; intro a hE
        refine q0 p55_2_6 hE (st_move rfl) ?_
        clear hE a; intro a hE
        refine p_cons (s_still p55_2_7 hE (wn_some g55_2_6 rfl rfl) rfl (st_move rfl) ?_)
        clear hE a; intro a hE
        refine p_cons (s_still p55_2_8 hE (wn_some g55_2_6 rfl rfl) rfl (st_lss (b := false) rfl rfl (decide_eq_false hP3)) ?_)
        clear hE a; intro a hE
        refine q0 p55_2_9 hE (st_pick rfl rfl) ?_
        clear hE a; intro a hE
        refine q0 p55_2_10 hE (st_move rfl) ?_
        clear hE a; intro a hE
        refine p_cons (s_still p55_2_11 hE (wn_some g55_2_10 rfl rfl) rfl (st_move rfl) ?_)
        clear hE a; intro a hE
        refine p_cons (s_still p55_2_12 hE (wn_some g55_2_10 rfl rfl) rfl (st_gtr (b := true) rfl rfl (decide_eq_true (by omega))) ?_)
        clear hE a; intro a hE
        refine q0 p55_2_13 hE (st_pick rfl rfl) ?_
        clear hE a; intro a hE
        refine p_nil ?_
        refine x_norm ?_
        refine c_cond (t := true) hE rfl ?_
        refine c_reg R55_3_l ?_
        refine q0 p55_3_0 hE (st_assign rfl) ?_
        clear hE a; intro a hE
        refine p_nil ?_
        refine x_norm ?_
        refine wp_ret ?_
        refine x_ret ?_
        refine ret_one (v := Value.bool false) rfl hE (.tmp rfl .nil) ?_
        exact ⟨by rw [mayO_out k x h], K_0⟩
theorem rmay_any (k x : Int) (w : World) : Calls Try.prog 55 #[.int .i64 k, .int .i64 x] w fun e w' => e = .returned (.bool (mayO k x)) ∧ Kp w w' (fun _ => False) := by
  by_cases h : (0 ≤ k ∧ k ≤ 3) ∧ 0 ≤ x ∧ x ≤ 9
  · obtain ⟨n, rfl⟩ : ∃ n : Nat, k = (n : Int) := ⟨k.toNat, by omega⟩
    match n, (show n ≤ 3 by omega) with
    | 0, _ => exact rmay_0 x h.2 w
    | 1, _ => exact rmay_1 x h.2 w
    | 2, _ => exact rmay_2 x h.2 w
    | 3, _ => exact rmay_3 x h.2 w
  · exact rmay_no k x h w
end Go.Proofs.Ytndiddfleidnaaa.Ct
