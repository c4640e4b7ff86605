/- Package option: the kinds' forms. -/
import Derived.Test.YtgpclehnomkbmaaRdv
import Derived.Test.YtgpclehnomkbmaaPackMore
import Derived.Test.YtgpclehnomkbmaaPackPut
import Derived.LoopN
set_option maxRecDepth 100000
set_option linter.unusedVariables false
set_option linter.unusedSimpArgs false
namespace Go.Proofs.Ytgpclehnomkbmaa.Op
open Go.RowKit Go.Proofs.YtgpclehnomkbmaaW.PrintWords Go.Proofs.Ytgpclehnomkbmaa.Ds
open Go.Proofs.Ytgpclehnomkbmaa.Pk (Kp fitsF spanF putF digF fits_any put_ok)
theorem wn_undef {R : Array Oper} {m : List (Nat × Value)} {j : Nat} {want : Bool} {t : Nat} (hj : dstOf R j = some t) (hl : Go.Proofs.Ytgpclehnomkbmaa.Ds.look m t = some undef) : Wn R m (some (j, want)) false := fun n a hE o ho => by
 unfold Region.wanted
 rw [ho]
 simp only
 have h1 : yielded R a.tmps j = none := by
  unfold yielded
  unfold dstOf at hj
  rw [hj]
  simp [hE.get t _ hl, undef]
 rw [h1]
 rfl
theorem kp_eq {w w' : World} (h : Kp w w' (fun _ => False)) (S : Nat → Prop) : Kp w w' S := h.mono (fun _ h => h.elim)
theorem kp_n {w w' : World} (h : Kp w w' (fun _ => False)) (S : Nat → Prop) : Kp w w' S := h.mono (fun _ h => h.elim)
theorem R115_0_l : List.range (regOf Try.f115 0).size = [0] := by kernel_rfl
theorem R115_1_l : List.range (regOf Try.f115 1).size = [0, 1, 2, 3, 4, 5, 6, 7, 8, 9, 10, 11, 12, 13, 14, 15, 16, 17, 18, 19] := by kernel_rfl
theorem body115 : Try.f115.body = some (.seq (.region 0 (regOf Try.f115 0) false) (.seq (.region 1 (regOf Try.f115 1) false) (.ret))) := by kernel_rfl
theorem p115_0_0 : pj (regOf Try.f115 0) 0 = some (some 0, .assign (.const (.slice none 0 0)), 191, none) := by kernel_rfl
theorem p115_1_0 : pj (regOf Try.f115 1) 0 = some (some 1, .build 116 #[(0, .const (.string { data := #[112, 97, 100] })), (1, .const (.slice none 0 0)), (2, .const (.int .i64 0)), (3, .const (.bool false)), (4, .const (.int .i64 (-1))), (5, .const (.int .i64 (-1)))], 116, none) := by kernel_rfl
theorem p115_1_1 : pj (regOf Try.f115 1) 1 = some (some 2, .buildSlice 42 1 #[(0, .const (.int .i64 1))], 42, none) := by kernel_rfl
theorem p115_1_2 : pj (regOf Try.f115 1) 2 = some (some 3, .build 116 #[(0, .const (.string { data := #[112, 97, 100, 115] })), (1, .tmp 2), (2, .const (.int .i64 0)), (3, .const (.bool false)), (4, .const (.int .i64 (-1))), (5, .const (.int .i64 (-1)))], 116, none) := by kernel_rfl
theorem p115_1_3 : pj (regOf Try.f115 1) 3 = some (some 4, .build 116 #[(0, .const (.string { data := #[109, 101, 116, 114, 105, 99] })), (1, .const (.slice none 0 0)), (2, .const (.int .i64 0)), (3, .const (.bool false)), (4, .const (.int .i64 (-1))), (5, .const (.int .i64 (-1)))], 116, none) := by kernel_rfl
theorem p115_1_4 : pj (regOf Try.f115 1) 4 = some (some 5, .buildSlice 42 3 #[(0, .const (.int .i64 1)), (1, .const (.int .i64 1)), (2, .const (.int .i64 4))], 42, none) := by kernel_rfl
theorem p115_1_5 : pj (regOf Try.f115 1) 5 = some (some 6, .build 116 #[(0, .const (.string { data := #[114, 111, 117, 116, 101] })), (1, .tmp 5), (2, .const (.int .i64 0)), (3, .const (.bool true)), (4, .const (.int .i64 0)), (5, .const (.int .i64 (-1)))], 116, none) := by kernel_rfl
theorem p115_1_6 : pj (regOf Try.f115 1) 6 = some (some 7, .buildSlice 42 10 #[(0, .const (.int .i64 1)), (1, .const (.int .i64 1)), (2, .const (.int .i64 1)), (3, .const (.int .i64 1)), (4, .const (.int .i64 2)), (5, .const (.int .i64 2)), (6, .const (.int .i64 2)), (7, .const (.int .i64 1)), (8, .const (.int .i64 1)), (9, .const (.int .i64 2))], 42, none) := by kernel_rfl
theorem p115_1_7 : pj (regOf Try.f115 1) 7 = some (some 8, .build 116 #[(0, .const (.string { data := #[99, 111, 110, 102, 105, 103] })), (1, .tmp 7), (2, .const (.int .i64 0)), (3, .const (.bool false)), (4, .const (.int .i64 (-1))), (5, .const (.int .i64 7))], 116, none) := by kernel_rfl
theorem p115_1_8 : pj (regOf Try.f115 1) 8 = some (some 9, .buildSlice 42 2 #[(0, .const (.int .i64 1)), (1, .const (.int .i64 1))], 42, none) := by kernel_rfl
theorem p115_1_9 : pj (regOf Try.f115 1) 9 = some (some 10, .build 116 #[(0, .const (.string { data := #[116, 97, 114, 103, 101, 116] })), (1, .tmp 9), (2, .const (.int .i64 0)), (3, .const (.bool true)), (4, .const (.int .i64 1)), (5, .const (.int .i64 (-1)))], 116, none) := by kernel_rfl
theorem p115_1_10 : pj (regOf Try.f115 1) 10 = some (some 11, .buildSlice 42 4 #[(0, .const (.int .i64 1)), (1, .const (.int .i64 1)), (2, .const (.int .i64 1)), (3, .const (.int .i64 1))], 42, none) := by kernel_rfl
theorem p115_1_11 : pj (regOf Try.f115 1) 11 = some (some 12, .build 116 #[(0, .const (.string { data := #[116, 114, 97, 110, 115, 105, 116] })), (1, .tmp 11), (2, .const (.int .i64 0)), (3, .const (.bool false)), (4, .const (.int .i64 (-1))), (5, .const (.int .i64 (-1)))], 116, none) := by kernel_rfl
theorem p115_1_12 : pj (regOf Try.f115 1) 12 = some (some 13, .buildSlice 42 3 #[(0, .const (.int .i64 1)), (1, .const (.int .i64 1)), (2, .const (.int .i64 1))], 42, none) := by kernel_rfl
theorem p115_1_13 : pj (regOf Try.f115 1) 13 = some (some 14, .build 116 #[(0, .const (.string { data := #[115, 111, 108, 105, 99, 105, 116, 101, 100] })), (1, .tmp 13), (2, .const (.int .i64 1)), (3, .const (.bool true)), (4, .const (.int .i64 (-1))), (5, .const (.int .i64 (-1)))], 116, none) := by kernel_rfl
theorem p115_1_14 : pj (regOf Try.f115 1) 14 = some (some 15, .buildSlice 42 5 #[(0, .const (.int .i64 1)), (1, .const (.int .i64 1)), (2, .const (.int .i64 4)), (3, .const (.int .i64 4)), (4, .const (.int .i64 4))], 42, none) := by kernel_rfl
theorem p115_1_15 : pj (regOf Try.f115 1) 15 = some (some 16, .build 116 #[(0, .const (.string { data := #[112, 114, 101, 102, 105, 120] })), (1, .tmp 15), (2, .const (.int .i64 0)), (3, .const (.bool true)), (4, .const (.int .i64 0)), (5, .const (.int .i64 4))], 116, none) := by kernel_rfl
theorem p115_1_16 : pj (regOf Try.f115 1) 16 = some (some 17, .buildSlice 42 1 #[(0, .const (.int .i64 4))], 42, none) := by kernel_rfl
theorem p115_1_17 : pj (regOf Try.f115 1) 17 = some (some 18, .build 116 #[(0, .const (.string { data := #[100, 101, 115, 99, 114, 105, 112, 116, 111, 114] })), (1, .tmp 17), (2, .const (.int .i64 0)), (3, .const (.bool false)), (4, .const (.int .i64 (-1))), (5, .const (.int .i64 (-1)))], 116, none) := by kernel_rfl
theorem p115_1_18 : pj (regOf Try.f115 1) 18 = some (some 19, .buildSlice 191 10 #[(0, .tmp 1), (1, .tmp 3), (2, .tmp 4), (3, .tmp 6), (4, .tmp 8), (5, .tmp 10), (6, .tmp 12), (7, .tmp 14), (8, .tmp 16), (9, .tmp 18)], 191, none) := by kernel_rfl
theorem p115_1_19 : pj (regOf Try.f115 1) 19 = some (some 0, .assign (.tmp 19), 191, none) := by kernel_rfl
set_option maxHeartbeats 4000000 in
theorem forms_ok (w : World) : Calls Try.prog 115 #[] w fun e w' => ∃ h0 h1 h2 h3 h4 h5 h6 h7 h8 : Nat, e = .returned (Value.slice (some ⟨h8, 0, none⟩) 10 10) ∧ w.heap.size ≤ h0 ∧ w'.heap[h0]? = some (.cells #[Value.int .i64 1] 3 (0, 0)) ∧ w.heap.size ≤ h1 ∧ w'.heap[h1]? = some (.cells #[Value.int .i64 1, Value.int .i64 1, Value.int .i64 4] 3 (0, 0)) ∧ w.heap.size ≤ h2 ∧ w'.heap[h2]? = some (.cells #[Value.int .i64 1, Value.int .i64 1, Value.int .i64 1, Value.int .i64 1, Value.int .i64 2, Value.int .i64 2, Value.int .i64 2, Value.int .i64 1, Value.int .i64 1, Value.int .i64 2] 3 (0, 0)) ∧ w.heap.size ≤ h3 ∧ w'.heap[h3]? = some (.cells #[Value.int .i64 1, Value.int .i64 1] 3 (0, 0)) ∧ w.heap.size ≤ h4 ∧ w'.heap[h4]? = some (.cells #[Value.int .i64 1, Value.int .i64 1, Value.int .i64 1, Value.int .i64 1] 3 (0, 0)) ∧ w.heap.size ≤ h5 ∧ w'.heap[h5]? = some (.cells #[Value.int .i64 1, Value.int .i64 1, Value.int .i64 1] 3 (0, 0)) ∧ w.heap.size ≤ h6 ∧ w'.heap[h6]? = some (.cells #[Value.int .i64 1, Value.int .i64 1, Value.int .i64 4, Value.int .i64 4, Value.int .i64 4] 3 (0, 0)) ∧ w.heap.size ≤ h7 ∧ w'.heap[h7]? = some (.cells #[Value.int .i64 4] 3 (0, 0)) ∧ w.heap.size ≤ h8 ∧ w'.heap[h8]? = some (.cells #[(Value.string { data := #[112, 97, 100] }), Value.slice none 0 0, Value.int .i64 0, Value.bool false, Value.int .i64 (-1), Value.int .i64 (-1), (Value.string { data := #[112, 97, 100, 115] }), Value.slice (some ⟨h0, 0, none⟩) 1 1, Value.int .i64 0, Value.bool false, Value.int .i64 (-1), Value.int .i64 (-1), (Value.string { data := #[109, 101, 116, 114, 105, 99] }), Value.slice none 0 0, Value.int .i64 0, Value.bool false, Value.int .i64 (-1), Value.int .i64 (-1), (Value.string { data := #[114, 111, 117, 116, 101] }), Value.slice (some ⟨h1, 0, none⟩) 3 3, Value.int .i64 0, Value.bool true, Value.int .i64 0, Value.int .i64 (-1), (Value.string { data := #[99, 111, 110, 102, 105, 103] }), Value.slice (some ⟨h2, 0, none⟩) 10 10, Value.int .i64 0, Value.bool false, Value.int .i64 (-1), Value.int .i64 7, (Value.string { data := #[116, 97, 114, 103, 101, 116] }), Value.slice (some ⟨h3, 0, none⟩) 2 2, Value.int .i64 0, Value.bool true, Value.int .i64 1, Value.int .i64 (-1), (Value.string { data := #[116, 114, 97, 110, 115, 105, 116] }), Value.slice (some ⟨h4, 0, none⟩) 4 4, Value.int .i64 0, Value.bool false, Value.int .i64 (-1), Value.int .i64 (-1), (Value.string { data := #[115, 111, 108, 105, 99, 105, 116, 101, 100] }), Value.slice (some ⟨h5, 0, none⟩) 3 3, Value.int .i64 1, Value.bool true, Value.int .i64 (-1), Value.int .i64 (-1), (Value.string { data := #[112, 114, 101, 102, 105, 120] }), Value.slice (some ⟨h6, 0, none⟩) 5 5, Value.int .i64 0, Value.bool true, Value.int .i64 0, Value.int .i64 4, (Value.string { data := #[100, 101, 115, 99, 114, 105, 112, 116, 111, 114] }), Value.slice (some ⟨h7, 0, none⟩) 1 1, Value.int .i64 0, Value.bool false, Value.int .i64 (-1), Value.int .i64 (-1)] 116 (0, 0)) ∧ Kp w w' (fun _ => False) := by
 have K_0 := Kp.refl w (fun _ => False)
 refine enter (args := []) (n := 20) Try.func115 body115 rfl rfl rfl ?_
 intro a hE
 refine c_reg R115_0_l ?_
 refine q0 p115_0_0 hE (st_assign rfl) ?_; clear hE a; intro a hE
 refine p_nil (x_norm (c_reg R115_1_l ?_))
 refine q0 p115_1_0 hE (st_build (xs := [(0, Operand.const (Value.string { data := #[112, 97, 100] })), (1, Operand.const (Value.slice none 0 0)), (2, Operand.const (Value.int IntKind.i64 0)), (3, Operand.const (Value.bool false)), (4, Operand.const (Value.int IntKind.i64 (-1))), (5, Operand.const (Value.int IntKind.i64 (-1)))]) (vs := [(0, (Value.string { data := #[112, 97, 100] })), (1, Value.slice none 0 0), (2, Value.int .i64 0), (3, Value.bool false), (4, Value.int .i64 (-1)), (5, Value.int .i64 (-1))]) (cs := #[(Value.string { data := #[112, 97, 100] }), Value.slice none 0 0, Value.int .i64 0, Value.bool false, Value.int .i64 (-1), Value.int .i64 (-1)]) rfl (by kernel_rfl)) ?_; clear hE a; intro a hE
 refine p_cons (s_row (xs := [(0, Operand.const (Value.int IntKind.i64 1))]) (vs := [(0, Value.int .i64 1)]) (cs := #[Value.int .i64 1]) p115_1_1 hE wn_none rfl Try.underlying42 rfl (by kernel_rfl) ?_)
 clear hE a; intro g1 w2 z3 B_g1 hk a hE
 have z_0_g1 := Nat.le_trans K_0.kept.1 z3
 replace K_0 := K_0.then_ hk (fun _ h => h.elim)
 clear hk
 refine q0 p115_1_2 hE (st_build (xs := [(0, Operand.const (Value.string { data := #[112, 97, 100, 115] })), (1, Operand.tmp 2), (2, Operand.const (Value.int IntKind.i64 0)), (3, Operand.const (Value.bool false)), (4, Operand.const (Value.int IntKind.i64 (-1))), (5, Operand.const (Value.int IntKind.i64 (-1)))]) (vs := [(0, (Value.string { data := #[112, 97, 100, 115] })), (1, Value.slice (some ⟨g1, 0, none⟩) 1 1), (2, Value.int .i64 0), (3, Value.bool false), (4, Value.int .i64 (-1)), (5, Value.int .i64 (-1))]) (cs := #[(Value.string { data := #[112, 97, 100, 115] }), Value.slice (some ⟨g1, 0, none⟩) 1 1, Value.int .i64 0, Value.bool false, Value.int .i64 (-1), Value.int .i64 (-1)]) rfl (by kernel_rfl)) ?_; clear hE a; intro a hE
 refine q0 p115_1_3 hE (st_build (xs := [(0, Operand.const (Value.string { data := #[109, 101, 116, 114, 105, 99] })), (1, Operand.const (Value.slice none 0 0)), (2, Operand.const (Value.int IntKind.i64 0)), (3, Operand.const (Value.bool false)), (4, Operand.const (Value.int IntKind.i64 (-1))), (5, Operand.const (Value.int IntKind.i64 (-1)))]) (vs := [(0, (Value.string { data := #[109, 101, 116, 114, 105, 99] })), (1, Value.slice none 0 0), (2, Value.int .i64 0), (3, Value.bool false), (4, Value.int .i64 (-1)), (5, Value.int .i64 (-1))]) (cs := #[(Value.string { data := #[109, 101, 116, 114, 105, 99] }), Value.slice none 0 0, Value.int .i64 0, Value.bool false, Value.int .i64 (-1), Value.int .i64 (-1)]) rfl (by kernel_rfl)) ?_; clear hE a; intro a hE
 refine p_cons (s_row (xs := [(0, Operand.const (Value.int IntKind.i64 1)), (1, Operand.const (Value.int IntKind.i64 1)), (2, Operand.const (Value.int IntKind.i64 4))]) (vs := [(0, Value.int .i64 1), (1, Value.int .i64 1), (2, Value.int .i64 4)]) (cs := #[Value.int .i64 1, Value.int .i64 1, Value.int .i64 4]) p115_1_4 hE wn_none rfl Try.underlying42 rfl (by kernel_rfl) ?_)
 clear hE a; intro g4 w5 z6 B_g4 hk a hE
 have n_g1_g4 : g1 ≠ g4 := ne_new B_g1 z6
 have z_0_g4 := Nat.le_trans K_0.kept.1 z6
 replace B_g1 := kp_blk B_g1 hk (fun h => h)
 replace K_0 := K_0.then_ hk (fun _ h => h.elim)
 clear hk
 refine q0 p115_1_5 hE (st_build (xs := [(0, Operand.const (Value.string { data := #[114, 111, 117, 116, 101] })), (1, Operand.tmp 5), (2, Operand.const (Value.int IntKind.i64 0)), (3, Operand.const (Value.bool true)), (4, Operand.const (Value.int IntKind.i64 0)), (5, Operand.const (Value.int IntKind.i64 (-1)))]) (vs := [(0, (Value.string { data := #[114, 111, 117, 116, 101] })), (1, Value.slice (some ⟨g4, 0, none⟩) 3 3), (2, Value.int .i64 0), (3, Value.bool true), (4, Value.int .i64 0), (5, Value.int .i64 (-1))]) (cs := #[(Value.string { data := #[114, 111, 117, 116, 101] }), Value.slice (some ⟨g4, 0, none⟩) 3 3, Value.int .i64 0, Value.bool true, Value.int .i64 0, Value.int .i64 (-1)]) rfl (by kernel_rfl)) ?_; clear hE a; intro a hE
 refine p_cons (s_row (xs := [(0, Operand.const (Value.int IntKind.i64 1)), (1, Operand.const (Value.int IntKind.i64 1)), (2, Operand.const (Value.int IntKind.i64 1)), (3, Operand.const (Value.int IntKind.i64 1)), (4, Operand.const (Value.int IntKind.i64 2)), (5, Operand.const (Value.int IntKind.i64 2)), (6, Operand.const (Value.int IntKind.i64 2)), (7, Operand.const (Value.int IntKind.i64 1)), (8, Operand.const (Value.int IntKind.i64 1)), (9, Operand.const (Value.int IntKind.i64 2))]) (vs := [(0, Value.int .i64 1), (1, Value.int .i64 1), (2, Value.int .i64 1), (3, Value.int .i64 1), (4, Value.int .i64 2), (5, Value.int .i64 2), (6, Value.int .i64 2), (7, Value.int .i64 1), (8, Value.int .i64 1), (9, Value.int .i64 2)]) (cs := #[Value.int .i64 1, Value.int .i64 1, Value.int .i64 1, Value.int .i64 1, Value.int .i64 2, Value.int .i64 2, Value.int .i64 2, Value.int .i64 1, Value.int .i64 1, Value.int .i64 2]) p115_1_6 hE wn_none rfl Try.underlying42 rfl (by kernel_rfl) ?_)
 clear hE a; intro g7 w8 z9 B_g7 hk a hE
 have n_g1_g7 : g1 ≠ g7 := ne_new B_g1 z9
 have n_g4_g7 : g4 ≠ g7 := ne_new B_g4 z9
 have z_0_g7 := Nat.le_trans K_0.kept.1 z9
 replace B_g1 := kp_blk B_g1 hk (fun h => h)
 replace B_g4 := kp_blk B_g4 hk (fun h => h)
 replace K_0 := K_0.then_ hk (fun _ h => h.elim)
 clear hk
 refine q0 p115_1_7 hE (st_build (xs := [(0, Operand.const (Value.string { data := #[99, 111, 110, 102, 105, 103] })), (1, Operand.tmp 7), (2, Operand.const (Value.int IntKind.i64 0)), (3, Operand.const (Value.bool false)), (4, Operand.const (Value.int IntKind.i64 (-1))), (5, Operand.const (Value.int IntKind.i64 7))]) (vs := [(0, (Value.string { data := #[99, 111, 110, 102, 105, 103] })), (1, Value.slice (some ⟨g7, 0, none⟩) 10 10), (2, Value.int .i64 0), (3, Value.bool false), (4, Value.int .i64 (-1)), (5, Value.int .i64 7)]) (cs := #[(Value.string { data := #[99, 111, 110, 102, 105, 103] }), Value.slice (some ⟨g7, 0, none⟩) 10 10, Value.int .i64 0, Value.bool false, Value.int .i64 (-1), Value.int .i64 7]) rfl (by kernel_rfl)) ?_; clear hE a; intro a hE
 refine p_cons (s_row (xs := [(0, Operand.const (Value.int IntKind.i64 1)), (1, Operand.const (Value.int IntKind.i64 1))]) (vs := [(0, Value.int .i64 1), (1, Value.int .i64 1)]) (cs := #[Value.int .i64 1, Value.int .i64 1]) p115_1_8 hE wn_none rfl Try.underlying42 rfl (by kernel_rfl) ?_)
 clear hE a; intro g10 w11 z12 B_g10 hk a hE
 have n_g1_g10 : g1 ≠ g10 := ne_new B_g1 z12
 have n_g4_g10 : g4 ≠ g10 := ne_new B_g4 z12
 have n_g7_g10 : g7 ≠ g10 := ne_new B_g7 z12
 have z_0_g10 := Nat.le_trans K_0.kept.1 z12
 replace B_g1 := kp_blk B_g1 hk (fun h => h)
 replace B_g4 := kp_blk B_g4 hk (fun h => h)
 replace B_g7 := kp_blk B_g7 hk (fun h => h)
 replace K_0 := K_0.then_ hk (fun _ h => h.elim)
 clear hk
 refine q0 p115_1_9 hE (st_build (xs := [(0, Operand.const (Value.string { data := #[116, 97, 114, 103, 101, 116] })), (1, Operand.tmp 9), (2, Operand.const (Value.int IntKind.i64 0)), (3, Operand.const (Value.bool true)), (4, Operand.const (Value.int IntKind.i64 1)), (5, Operand.const (Value.int IntKind.i64 (-1)))]) (vs := [(0, (Value.string { data := #[116, 97, 114, 103, 101, 116] })), (1, Value.slice (some ⟨g10, 0, none⟩) 2 2), (2, Value.int .i64 0), (3, Value.bool true), (4, Value.int .i64 1), (5, Value.int .i64 (-1))]) (cs := #[(Value.string { data := #[116, 97, 114, 103, 101, 116] }), Value.slice (some ⟨g10, 0, none⟩) 2 2, Value.int .i64 0, Value.bool true, Value.int .i64 1, Value.int .i64 (-1)]) rfl (by kernel_rfl)) ?_; clear hE a; intro a hE
 refine p_cons (s_row (xs := [(0, Operand.const (Value.int IntKind.i64 1)), (1, Operand.const (Value.int IntKind.i64 1)), (2, Operand.const (Value.int IntKind.i64 1)), (3, Operand.const (Value.int IntKind.i64 1))]) (vs := [(0, Value.int .i64 1), (1, Value.int .i64 1), (2, Value.int .i64 1), (3, Value.int .i64 1)]) (cs := #[Value.int .i64 1, Value.int .i64 1, Value.int .i64 1, Value.int .i64 1]) p115_1_10 hE wn_none rfl Try.underlying42 rfl (by kernel_rfl) ?_)
 clear hE a; intro g13 w14 z15 B_g13 hk a hE
 have n_g1_g13 : g1 ≠ g13 := ne_new B_g1 z15
 have n_g4_g13 : g4 ≠ g13 := ne_new B_g4 z15
 have n_g7_g13 : g7 ≠ g13 := ne_new B_g7 z15
 have n_g10_g13 : g10 ≠ g13 := ne_new B_g10 z15
 have z_0_g13 := Nat.le_trans K_0.kept.1 z15
 replace B_g1 := kp_blk B_g1 hk (fun h => h)
 replace B_g4 := kp_blk B_g4 hk (fun h => h)
 replace B_g7 := kp_blk B_g7 hk (fun h => h)
 replace B_g10 := kp_blk B_g10 hk (fun h => h)
 replace K_0 := K_0.then_ hk (fun _ h => h.elim)
 clear hk
 refine q0 p115_1_11 hE (st_build (xs := [(0, Operand.const (Value.string { data := #[116, 114, 97, 110, 115, 105, 116] })), (1, Operand.tmp 11), (2, Operand.const (Value.int IntKind.i64 0)), (3, Operand.const (Value.bool false)), (4, Operand.const (Value.int IntKind.i64 (-1))), (5, Operand.const (Value.int IntKind.i64 (-1)))]) (vs := [(0, (Value.string { data := #[116, 114, 97, 110, 115, 105, 116] })), (1, Value.slice (some ⟨g13, 0, none⟩) 4 4), (2, Value.int .i64 0), (3, Value.bool false), (4, Value.int .i64 (-1)), (5, Value.int .i64 (-1))]) (cs := #[(Value.string { data := #[116, 114, 97, 110, 115, 105, 116] }), Value.slice (some ⟨g13, 0, none⟩) 4 4, Value.int .i64 0, Value.bool false, Value.int .i64 (-1), Value.int .i64 (-1)]) rfl (by kernel_rfl)) ?_; clear hE a; intro a hE
 refine p_cons (s_row (xs := [(0, Operand.const (Value.int IntKind.i64 1)), (1, Operand.const (Value.int IntKind.i64 1)), (2, Operand.const (Value.int IntKind.i64 1))]) (vs := [(0, Value.int .i64 1), (1, Value.int .i64 1), (2, Value.int .i64 1)]) (cs := #[Value.int .i64 1, Value.int .i64 1, Value.int .i64 1]) p115_1_12 hE wn_none rfl Try.underlying42 rfl (by kernel_rfl) ?_)
 clear hE a; intro g16 w17 z18 B_g16 hk a hE
 have n_g1_g16 : g1 ≠ g16 := ne_new B_g1 z18
 have n_g4_g16 : g4 ≠ g16 := ne_new B_g4 z18
 have n_g7_g16 : g7 ≠ g16 := ne_new B_g7 z18
 have n_g10_g16 : g10 ≠ g16 := ne_new B_g10 z18
 have n_g13_g16 : g13 ≠ g16 := ne_new B_g13 z18
 have z_0_g16 := Nat.le_trans K_0.kept.1 z18
 replace B_g1 := kp_blk B_g1 hk (fun h => h)
 replace B_g4 := kp_blk B_g4 hk (fun h => h)
 replace B_g7 := kp_blk B_g7 hk (fun h => h)
 replace B_g10 := kp_blk B_g10 hk (fun h => h)
 replace B_g13 := kp_blk B_g13 hk (fun h => h)
 replace K_0 := K_0.then_ hk (fun _ h => h.elim)
 clear hk
 refine q0 p115_1_13 hE (st_build (xs := [(0, Operand.const (Value.string { data := #[115, 111, 108, 105, 99, 105, 116, 101, 100] })), (1, Operand.tmp 13), (2, Operand.const (Value.int IntKind.i64 1)), (3, Operand.const (Value.bool true)), (4, Operand.const (Value.int IntKind.i64 (-1))), (5, Operand.const (Value.int IntKind.i64 (-1)))]) (vs := [(0, (Value.string { data := #[115, 111, 108, 105, 99, 105, 116, 101, 100] })), (1, Value.slice (some ⟨g16, 0, none⟩) 3 3), (2, Value.int .i64 1), (3, Value.bool true), (4, Value.int .i64 (-1)), (5, Value.int .i64 (-1))]) (cs := #[(Value.string { data := #[115, 111, 108, 105, 99, 105, 116, 101, 100] }), Value.slice (some ⟨g16, 0, none⟩) 3 3, Value.int .i64 1, Value.bool true, Value.int .i64 (-1), Value.int .i64 (-1)]) rfl (by kernel_rfl)) ?_; clear hE a; intro a hE
 refine p_cons (s_row (xs := [(0, Operand.const (Value.int IntKind.i64 1)), (1, Operand.const (Value.int IntKind.i64 1)), (2, Operand.const (Value.int IntKind.i64 4)), (3, Operand.const (Value.int IntKind.i64 4)), (4, Operand.const (Value.int IntKind.i64 4))]) (vs := [(0, Value.int .i64 1), (1, Value.int .i64 1), (2, Value.int .i64 4), (3, Value.int .i64 4), (4, Value.int .i64 4)]) (cs := #[Value.int .i64 1, Value.int .i64 1, Value.int .i64 4, Value.int .i64 4, Value.int .i64 4]) p115_1_14 hE wn_none rfl Try.underlying42 rfl (by kernel_rfl) ?_)
 clear hE a; intro g19 w20 z21 B_g19 hk a hE
 have n_g1_g19 : g1 ≠ g19 := ne_new B_g1 z21
 have n_g4_g19 : g4 ≠ g19 := ne_new B_g4 z21
 have n_g7_g19 : g7 ≠ g19 := ne_new B_g7 z21
 have n_g10_g19 : g10 ≠ g19 := ne_new B_g10 z21
 have n_g13_g19 : g13 ≠ g19 := ne_new B_g13 z21
 have n_g16_g19 : g16 ≠ g19 := ne_new B_g16 z21
 have z_0_g19 := Nat.le_trans K_0.kept.1 z21
 replace B_g1 := kp_blk B_g1 hk (fun h => h)
 replace B_g4 := kp_blk B_g4 hk (fun h => h)
 replace B_g7 := kp_blk B_g7 hk (fun h => h)
 replace B_g10 := kp_blk B_g10 hk (fun h => h)
 replace B_g13 := kp_blk B_g13 hk (fun h => h)
 replace B_g16 := kp_blk B_g16 hk (fun h => h)
 replace K_0 := K_0.then_ hk (fun _ h => h.elim)
 clear hk
 refine q0 p115_1_15 hE (st_build (xs := [(0, Operand.const (Value.string { data := #[112, 114, 101, 102, 105, 120] })), (1, Operand.tmp 15), (2, Operand.const (Value.int IntKind.i64 0)), (3, Operand.const (Value.bool true)), (4, Operand.const (Value.int IntKind.i64 0)), (5, Operand.const (Value.int IntKind.i64 4))]) (vs := [(0, (Value.string { data := #[112, 114, 101, 102, 105, 120] })), (1, Value.slice (some ⟨g19, 0, none⟩) 5 5), (2, Value.int .i64 0), (3, Value.bool true), (4, Value.int .i64 0), (5, Value.int .i64 4)]) (cs := #[(Value.string { data := #[112, 114, 101, 102, 105, 120] }), Value.slice (some ⟨g19, 0, none⟩) 5 5, Value.int .i64 0, Value.bool true, Value.int .i64 0, Value.int .i64 4]) rfl (by kernel_rfl)) ?_; clear hE a; intro a hE
 refine p_cons (s_row (xs := [(0, Operand.const (Value.int IntKind.i64 4))]) (vs := [(0, Value.int .i64 4)]) (cs := #[Value.int .i64 4]) p115_1_16 hE wn_none rfl Try.underlying42 rfl (by kernel_rfl) ?_)
 clear hE a; intro g22 w23 z24 B_g22 hk a hE
 have n_g1_g22 : g1 ≠ g22 := ne_new B_g1 z24
 have n_g4_g22 : g4 ≠ g22 := ne_new B_g4 z24
 have n_g7_g22 : g7 ≠ g22 := ne_new B_g7 z24
 have n_g10_g22 : g10 ≠ g22 := ne_new B_g10 z24
 have n_g13_g22 : g13 ≠ g22 := ne_new B_g13 z24
 have n_g16_g22 : g16 ≠ g22 := ne_new B_g16 z24
 have n_g19_g22 : g19 ≠ g22 := ne_new B_g19 z24
 have z_0_g22 := Nat.le_trans K_0.kept.1 z24
 replace B_g1 := kp_blk B_g1 hk (fun h => h)
 replace B_g4 := kp_blk B_g4 hk (fun h => h)
 replace B_g7 := kp_blk B_g7 hk (fun h => h)
 replace B_g10 := kp_blk B_g10 hk (fun h => h)
 replace B_g13 := kp_blk B_g13 hk (fun h => h)
 replace B_g16 := kp_blk B_g16 hk (fun h => h)
 replace B_g19 := kp_blk B_g19 hk (fun h => h)
 replace K_0 := K_0.then_ hk (fun _ h => h.elim)
 clear hk
 refine q0 p115_1_17 hE (st_build (xs := [(0, Operand.const (Value.string { data := #[100, 101, 115, 99, 114, 105, 112, 116, 111, 114] })), (1, Operand.tmp 17), (2, Operand.const (Value.int IntKind.i64 0)), (3, Operand.const (Value.bool false)), (4, Operand.const (Value.int IntKind.i64 (-1))), (5, Operand.const (Value.int IntKind.i64 (-1)))]) (vs := [(0, (Value.string { data := #[100, 101, 115, 99, 114, 105, 112, 116, 111, 114] })), (1, Value.slice (some ⟨g22, 0, none⟩) 1 1), (2, Value.int .i64 0), (3, Value.bool false), (4, Value.int .i64 (-1)), (5, Value.int .i64 (-1))]) (cs := #[(Value.string { data := #[100, 101, 115, 99, 114, 105, 112, 116, 111, 114] }), Value.slice (some ⟨g22, 0, none⟩) 1 1, Value.int .i64 0, Value.bool false, Value.int .i64 (-1), Value.int .i64 (-1)]) rfl (by kernel_rfl)) ?_; clear hE a; intro a hE
 refine p_cons (s_row (xs := [(0, Operand.tmp 1), (1, Operand.tmp 3), (2, Operand.tmp 4), (3, Operand.tmp 6), (4, Operand.tmp 8), (5, Operand.tmp 10), (6, Operand.tmp 12), (7, Operand.tmp 14), (8, Operand.tmp 16), (9, Operand.tmp 18)]) (vs := [(0, Value.agg #[(Value.string { data := #[112, 97, 100] }), Value.slice none 0 0, Value.int .i64 0, Value.bool false, Value.int .i64 (-1), Value.int .i64 (-1)]), (1, Value.agg #[(Value.string { data := #[112, 97, 100, 115] }), Value.slice (some ⟨g1, 0, none⟩) 1 1, Value.int .i64 0, Value.bool false, Value.int .i64 (-1), Value.int .i64 (-1)]), (2, Value.agg #[(Value.string { data := #[109, 101, 116, 114, 105, 99] }), Value.slice none 0 0, Value.int .i64 0, Value.bool false, Value.int .i64 (-1), Value.int .i64 (-1)]), (3, Value.agg #[(Value.string { data := #[114, 111, 117, 116, 101] }), Value.slice (some ⟨g4, 0, none⟩) 3 3, Value.int .i64 0, Value.bool true, Value.int .i64 0, Value.int .i64 (-1)]), (4, Value.agg #[(Value.string { data := #[99, 111, 110, 102, 105, 103] }), Value.slice (some ⟨g7, 0, none⟩) 10 10, Value.int .i64 0, Value.bool false, Value.int .i64 (-1), Value.int .i64 7]), (5, Value.agg #[(Value.string { data := #[116, 97, 114, 103, 101, 116] }), Value.slice (some ⟨g10, 0, none⟩) 2 2, Value.int .i64 0, Value.bool true, Value.int .i64 1, Value.int .i64 (-1)]), (6, Value.agg #[(Value.string { data := #[116, 114, 97, 110, 115, 105, 116] }), Value.slice (some ⟨g13, 0, none⟩) 4 4, Value.int .i64 0, Value.bool false, Value.int .i64 (-1), Value.int .i64 (-1)]), (7, Value.agg #[(Value.string { data := #[115, 111, 108, 105, 99, 105, 116, 101, 100] }), Value.slice (some ⟨g16, 0, none⟩) 3 3, Value.int .i64 1, Value.bool true, Value.int .i64 (-1), Value.int .i64 (-1)]), (8, Value.agg #[(Value.string { data := #[112, 114, 101, 102, 105, 120] }), Value.slice (some ⟨g19, 0, none⟩) 5 5, Value.int .i64 0, Value.bool true, Value.int .i64 0, Value.int .i64 4]), (9, Value.agg #[(Value.string { data := #[100, 101, 115, 99, 114, 105, 112, 116, 111, 114] }), Value.slice (some ⟨g22, 0, none⟩) 1 1, Value.int .i64 0, Value.bool false, Value.int .i64 (-1), Value.int .i64 (-1)])]) (cs := #[(Value.string { data := #[112, 97, 100] }), Value.slice none 0 0, Value.int .i64 0, Value.bool false, Value.int .i64 (-1), Value.int .i64 (-1), (Value.string { data := #[112, 97, 100, 115] }), Value.slice (some ⟨g1, 0, none⟩) 1 1, Value.int .i64 0, Value.bool false, Value.int .i64 (-1), Value.int .i64 (-1), (Value.string { data := #[109, 101, 116, 114, 105, 99] }), Value.slice none 0 0, Value.int .i64 0, Value.bool false, Value.int .i64 (-1), Value.int .i64 (-1), (Value.string { data := #[114, 111, 117, 116, 101] }), Value.slice (some ⟨g4, 0, none⟩) 3 3, Value.int .i64 0, Value.bool true, Value.int .i64 0, Value.int .i64 (-1), (Value.string { data := #[99, 111, 110, 102, 105, 103] }), Value.slice (some ⟨g7, 0, none⟩) 10 10, Value.int .i64 0, Value.bool false, Value.int .i64 (-1), Value.int .i64 7, (Value.string { data := #[116, 97, 114, 103, 101, 116] }), Value.slice (some ⟨g10, 0, none⟩) 2 2, Value.int .i64 0, Value.bool true, Value.int .i64 1, Value.int .i64 (-1), (Value.string { data := #[116, 114, 97, 110, 115, 105, 116] }), Value.slice (some ⟨g13, 0, none⟩) 4 4, Value.int .i64 0, Value.bool false, Value.int .i64 (-1), Value.int .i64 (-1), (Value.string { data := #[115, 111, 108, 105, 99, 105, 116, 101, 100] }), Value.slice (some ⟨g16, 0, none⟩) 3 3, Value.int .i64 1, Value.bool true, Value.int .i64 (-1), Value.int .i64 (-1), (Value.string { data := #[112, 114, 101, 102, 105, 120] }), Value.slice (some ⟨g19, 0, none⟩) 5 5, Value.int .i64 0, Value.bool true, Value.int .i64 0, Value.int .i64 4, (Value.string { data := #[100, 101, 115, 99, 114, 105, 112, 116, 111, 114] }), Value.slice (some ⟨g22, 0, none⟩) 1 1, Value.int .i64 0, Value.bool false, Value.int .i64 (-1), Value.int .i64 (-1)]) p115_1_18 hE wn_none rfl Try.underlying191 rfl (by kernel_rfl) ?_)
 clear hE a; intro g25 w26 z27 B_g25 hk a hE
 have n_g1_g25 : g1 ≠ g25 := ne_new B_g1 z27
 have n_g4_g25 : g4 ≠ g25 := ne_new B_g4 z27
 have n_g7_g25 : g7 ≠ g25 := ne_new B_g7 z27
 have n_g10_g25 : g10 ≠ g25 := ne_new B_g10 z27
 have n_g13_g25 : g13 ≠ g25 := ne_new B_g13 z27
 have n_g16_g25 : g16 ≠ g25 := ne_new B_g16 z27
 have n_g19_g25 : g19 ≠ g25 := ne_new B_g19 z27
 have n_g22_g25 : g22 ≠ g25 := ne_new B_g22 z27
 have z_0_g25 := Nat.le_trans K_0.kept.1 z27
 replace B_g1 := kp_blk B_g1 hk (fun h => h)
 replace B_g4 := kp_blk B_g4 hk (fun h => h)
 replace B_g7 := kp_blk B_g7 hk (fun h => h)
 replace B_g10 := kp_blk B_g10 hk (fun h => h)
 replace B_g13 := kp_blk B_g13 hk (fun h => h)
 replace B_g16 := kp_blk B_g16 hk (fun h => h)
 replace B_g19 := kp_blk B_g19 hk (fun h => h)
 replace B_g22 := kp_blk B_g22 hk (fun h => h)
 replace K_0 := K_0.then_ hk (fun _ h => h.elim)
 clear hk
 refine q0 p115_1_19 hE (st_assign rfl) ?_; clear hE a; intro a hE
 refine p_nil (x_norm (wp_ret ?_))
 refine ret_one (v := Value.slice (some ⟨g25, 0, none⟩) 10 10) rfl hE (.tmp rfl .nil) ?_
 exact ⟨g1, g4, g7, g10, g13, g16, g19, g22, g25, rfl, z_0_g1, B_g1, z_0_g4, B_g4, z_0_g7, B_g7, z_0_g10, B_g10, z_0_g13, B_g13, z_0_g16, B_g16, z_0_g19, B_g19, z_0_g22, B_g22, z_0_g25, B_g25, K_0⟩
theorem R57_0_l : List.range (regOf Try.f57 0).size = [0, 1] := by kernel_rfl
theorem R57_1_l : List.range (regOf Try.f57 1).size = [0, 1] := by kernel_rfl
theorem R57_2_l : List.range (regOf Try.f57 2).size = [0, 1, 2, 3, 4, 5, 6, 7] := by kernel_rfl
theorem R57_3_l : List.range (regOf Try.f57 3).size = [0, 1, 2] := by kernel_rfl
theorem R57_4_l : List.range (regOf Try.f57 4).size = [0, 1, 2, 3, 4, 5] := by kernel_rfl
theorem body57 : Try.f57.body = some (.seq (.region 0 (regOf Try.f57 0) false) (.seq (.region 1 (regOf Try.f57 1) false) (.seq (.seq (.region 2 (regOf Try.f57 2) false) (.cond (Operand.tmp 13) (.seq (.region 3 (regOf Try.f57 3) false) (.ret)) (.skip))) (.seq (.region 4 (regOf Try.f57 4) false) (.ret))))) := by kernel_rfl
theorem p57_0_0 : pj (regOf Try.f57 0) 0 = some (some 2, .alloc 116, 0, none) := by kernel_rfl
theorem tZ116 : (Try.prog.info? 116).bind (·.zero) = some (Value.agg #[Value.string ByteArray.empty, Value.slice none 0 0, Value.int .i64 0, Value.bool false, Value.int .i64 0, Value.int .i64 0]) := by kernel_rfl
theorem p57_0_1 : pj (regOf Try.f57 0) 1 = some (some 3, .assign (.const (.bool false)), 4, none) := by kernel_rfl
theorem p57_1_0 : pj (regOf Try.f57 1) 0 = some (some 5, .call { callee := .value (.func 115), args := #[], argTypes := #[] }, 191, none) := by kernel_rfl
theorem cl115 : callable Try.f115 = true := by kernel_rfl
theorem p57_1_1 : pj (regOf Try.f57 1) 1 = some (some 4, .assign (.tmp 5), 191, none) := by kernel_rfl
theorem p57_2_0 : pj (regOf Try.f57 2) 0 = some (some 6, .move (.tmp 0), 3, none) := by kernel_rfl
theorem p57_2_1 : pj (regOf Try.f57 2) 1 = some (some 7, .binOp .lss 3 (.tmp 6) (.const (.int .i64 0)) 3, 4, none) := by kernel_rfl
theorem p57_2_2 : pj (regOf Try.f57 2) 2 = some (some 8, .move (.tmp 7), 4, none) := by kernel_rfl
theorem p57_2_3 : pj (regOf Try.f57 2) 3 = some (some 9, .move (.tmp 0), 3, some (2, false)) := by kernel_rfl
theorem g57_2_2 : dstOf (regOf Try.f57 2) 2 = some 8 := by kernel_rfl
theorem p57_2_4 : pj (regOf Try.f57 2) 4 = some (some 10, .move (.tmp 4), 191, some (2, false)) := by kernel_rfl
theorem p57_2_5 : pj (regOf Try.f57 2) 5 = some (some 11, .call { callee := .builtin .len, args := #[.tmp 10], argTypes := #[191] }, 3, some (2, false)) := by kernel_rfl
theorem p57_2_6 : pj (regOf Try.f57 2) 6 = some (some 12, .binOp .geq 3 (.tmp 9) (.tmp 11) 3, 4, some (2, false)) := by kernel_rfl
theorem p57_2_7 : pj (regOf Try.f57 2) 7 = some (some 13, .pick (.tmp 8) (.const (.bool true)) (.tmp 12), 4, none) := by kernel_rfl
theorem p57_3_0 : pj (regOf Try.f57 3) 0 = some (some 14, .build 116 #[], 116, none) := by kernel_rfl
theorem p57_3_1 : pj (regOf Try.f57 3) 1 = some (none, .store 116 (.tmp 2) (.tmp 14), 0, none) := by kernel_rfl
theorem tS116 : (Try.prog.info? 116).map (·.size) = some 6 := by kernel_rfl
theorem p57_3_2 : pj (regOf Try.f57 3) 2 = some (some 3, .assign (.const (.bool false)), 4, none) := by kernel_rfl
theorem tA116 : (Try.prog.underlying 116).map aggD = some true := by kernel_rfl
set_option maxHeartbeats 4000000 in
theorem of_no (k : Int) (h : ¬ (0 ≤ k ∧ k ≤ 9)) (w : World) : Calls Try.prog 57 #[.int .i64 k] w fun e w' => e = .returned (.tuple #[Value.agg #[Value.string ByteArray.empty, Value.slice none 0 0, Value.int .i64 0, Value.bool false, Value.int .i64 0, Value.int .i64 0], .bool false]) ∧ Kp w w' (fun _ => False) := by
 have K_0 := Kp.refl w (fun _ => False)
 refine enter (args := [Value.int .i64 k]) (n := 19) Try.func57 body57 rfl rfl rfl ?_
 intro a hE
 refine c_reg R57_0_l ?_
 refine p_cons (s_alloc p57_0_0 hE wn_none rfl tZ116 ?_)
 clear hE a; intro g1 w2 z3 B_g1 hk a hE
 replace B_g1 : w2.heap[g1]? = some (.cells #[Value.string ByteArray.empty, Value.slice none 0 0, Value.int .i64 0, Value.bool false, Value.int .i64 0, Value.int .i64 0] 116 (0, 0)) := B_g1
 have z_0_g1 := Nat.le_trans K_0.kept.1 z3
 replace K_0 := K_0.then_ hk (fun _ h => h.elim)
 clear hk
 refine q0 p57_0_1 hE (st_assign rfl) ?_; clear hE a; intro a hE
 refine p_nil (x_norm (c_reg R57_1_l ?_))
 refine p_cons (s_call (xs := []) (args := []) p57_1_0 hE wn_none rfl rfl Try.func115 cl115 (forms_ok _) ?_)
 rintro e w4 ⟨h0, h1, h2, h3, h4, h5, h6, h7, h8, rfl, zh0, B_h0, zh1, B_h1, zh2, B_h2, zh3, B_h3, zh4, B_h4, zh5, B_h5, zh6, B_h6, zh7, B_h7, zh8, B_h8, hk⟩
 have n_g1_h0 : g1 ≠ h0 := ne_new B_g1 zh0
 have z_0_h0 := Nat.le_trans K_0.kept.1 zh0
 have n_g1_h1 : g1 ≠ h1 := ne_new B_g1 zh1
 have z_0_h1 := Nat.le_trans K_0.kept.1 zh1
 have n_g1_h2 : g1 ≠ h2 := ne_new B_g1 zh2
 have z_0_h2 := Nat.le_trans K_0.kept.1 zh2
 have n_g1_h3 : g1 ≠ h3 := ne_new B_g1 zh3
 have z_0_h3 := Nat.le_trans K_0.kept.1 zh3
 have n_g1_h4 : g1 ≠ h4 := ne_new B_g1 zh4
 have z_0_h4 := Nat.le_trans K_0.kept.1 zh4
 have n_g1_h5 : g1 ≠ h5 := ne_new B_g1 zh5
 have z_0_h5 := Nat.le_trans K_0.kept.1 zh5
 have n_g1_h6 : g1 ≠ h6 := ne_new B_g1 zh6
 have z_0_h6 := Nat.le_trans K_0.kept.1 zh6
 have n_g1_h7 : g1 ≠ h7 := ne_new B_g1 zh7
 have z_0_h7 := Nat.le_trans K_0.kept.1 zh7
 have n_g1_h8 : g1 ≠ h8 := ne_new B_g1 zh8
 have z_0_h8 := Nat.le_trans K_0.kept.1 zh8
 replace B_g1 := kp_blk B_g1 hk (fun h => h)
 replace K_0 := K_0.then_ hk (fun _ h => h.elim)
 refine ⟨_, rfl, ?_⟩; clear hE a; intro a hE
 refine q0 p57_1_1 hE (st_assign rfl) ?_; clear hE a; intro a hE
 refine p_nil (x_norm (wp_seq ?_))
 rcases Decidable.em (k < 0) with hlo | hlo
 ·
  refine c_reg R57_2_l ?_
  refine q0 p57_2_0 hE (st_move rfl) ?_; clear hE a; intro a hE
  refine q0 p57_2_1 hE (st_lss (b := true) rfl rfl (decide_eq_true (by omega))) ?_; clear hE a; intro a hE
  refine q0 p57_2_2 hE (st_move rfl) ?_; clear hE a; intro a hE
  refine p_cons (s_skip p57_2_3 hE (wn_some g57_2_2 rfl rfl) rfl ?_); clear hE a; intro a hE
  refine p_cons (s_skip p57_2_4 hE (wn_some g57_2_2 rfl rfl) rfl ?_); clear hE a; intro a hE
  refine p_cons (s_skip p57_2_5 hE (wn_some g57_2_2 rfl rfl) rfl ?_); clear hE a; intro a hE
  refine p_cons (s_skip p57_2_6 hE (wn_some g57_2_2 rfl rfl) rfl ?_); clear hE a; intro a hE
  refine q0 p57_2_7 hE (st_pick rfl rfl) ?_; clear hE a; intro a hE
  refine p_nil (x_norm ?_)
  refine c_cond (t := true) hE rfl ?_
  refine c_reg R57_3_l ?_
  refine q0 p57_3_0 hE (st_build (xs := []) (vs := []) (cs := #[Value.string ByteArray.empty, Value.slice none 0 0, Value.int .i64 0, Value.bool false, Value.int .i64 0, Value.int .i64 0]) rfl (by kernel_rfl)) ?_; clear hE a; intro a hE
  refine p_cons (s_store (off := 0) (k := 6) (cs' := #[Value.string ByteArray.empty, Value.slice none 0 0, Value.int .i64 0, Value.bool false, Value.int .i64 0, Value.int .i64 0]) p57_3_1 hE wn_none tS116 rfl rfl rfl rfl B_g1 (Nat.le_of_ble_eq_true rfl) rfl ?_)
  intro w5 B_g1' hk
  replace B_h0 := kp_blk B_h0 hk (Ne.symm n_g1_h0)
  replace B_h1 := kp_blk B_h1 hk (Ne.symm n_g1_h1)
  replace B_h2 := kp_blk B_h2 hk (Ne.symm n_g1_h2)
  replace B_h3 := kp_blk B_h3 hk (Ne.symm n_g1_h3)
  replace B_h4 := kp_blk B_h4 hk (Ne.symm n_g1_h4)
  replace B_h5 := kp_blk B_h5 hk (Ne.symm n_g1_h5)
  replace B_h6 := kp_blk B_h6 hk (Ne.symm n_g1_h6)
  replace B_h7 := kp_blk B_h7 hk (Ne.symm n_g1_h7)
  replace B_h8 := kp_blk B_h8 hk (Ne.symm n_g1_h8)
  replace K_0 := K_0.then_ hk (fun k h => by rw [show k = g1 from h]; exact Or.inr z_0_g1)
  replace B_g1 := B_g1'
  clear hk
  refine q0 p57_3_2 hE (st_assign rfl) ?_; clear hE a; intro a hE
  refine p_nil (x_norm (wp_ret (x_ret ?_)))
  refine ret_list (rs := [.cell 2 116, .tmp 3]) (vs := [Value.agg #[Value.string ByteArray.empty, Value.slice none 0 0, Value.int .i64 0, Value.bool false, Value.int .i64 0, Value.int .i64 0], Value.bool false]) rfl hE (.cellN (us := [Value.string ByteArray.empty, Value.slice none 0 0, Value.int .i64 0, Value.bool false, Value.int .i64 0, Value.int .i64 0]) tA116 tS116 rfl B_g1 rfl (.tmp rfl .nil)) rfl ?_
  exact ⟨rfl, K_0⟩
 ·
  refine c_reg R57_2_l ?_
  refine q0 p57_2_0 hE (st_move rfl) ?_; clear hE a; intro a hE
  refine q0 p57_2_1 hE (st_lss (b := false) rfl rfl (decide_eq_false (by omega))) ?_; clear hE a; intro a hE
  refine q0 p57_2_2 hE (st_move rfl) ?_; clear hE a; intro a hE
  refine p_cons (s_still p57_2_3 hE (wn_some g57_2_2 rfl rfl) rfl (st_move rfl) ?_); clear hE a; intro a hE
  refine p_cons (s_still p57_2_4 hE (wn_some g57_2_2 rfl rfl) rfl (st_move rfl) ?_); clear hE a; intro a hE
  refine p_cons (s_still p57_2_5 hE (wn_some g57_2_2 rfl rfl) rfl (st_len Try.underlying191 rfl) ?_); clear hE a; intro a hE
  refine p_cons (s_still p57_2_6 hE (wn_some g57_2_2 rfl rfl) rfl (st_geq (b := true) rfl rfl (decide_eq_true (by omega))) ?_); clear hE a; intro a hE
  refine q0 p57_2_7 hE (st_pick rfl rfl) ?_; clear hE a; intro a hE
  refine p_nil (x_norm ?_)
  refine c_cond (t := true) hE rfl ?_
  refine c_reg R57_3_l ?_
  refine q0 p57_3_0 hE (st_build (xs := []) (vs := []) (cs := #[Value.string ByteArray.empty, Value.slice none 0 0, Value.int .i64 0, Value.bool false, Value.int .i64 0, Value.int .i64 0]) rfl (by kernel_rfl)) ?_; clear hE a; intro a hE
  refine p_cons (s_store (off := 0) (k := 6) (cs' := #[Value.string ByteArray.empty, Value.slice none 0 0, Value.int .i64 0, Value.bool false, Value.int .i64 0, Value.int .i64 0]) p57_3_1 hE wn_none tS116 rfl rfl rfl rfl B_g1 (Nat.le_of_ble_eq_true rfl) rfl ?_)
  intro w6 B_g1' hk
  replace B_h0 := kp_blk B_h0 hk (Ne.symm n_g1_h0)
  replace B_h1 := kp_blk B_h1 hk (Ne.symm n_g1_h1)
  replace B_h2 := kp_blk B_h2 hk (Ne.symm n_g1_h2)
  replace B_h3 := kp_blk B_h3 hk (Ne.symm n_g1_h3)
  replace B_h4 := kp_blk B_h4 hk (Ne.symm n_g1_h4)
  replace B_h5 := kp_blk B_h5 hk (Ne.symm n_g1_h5)
  replace B_h6 := kp_blk B_h6 hk (Ne.symm n_g1_h6)
  replace B_h7 := kp_blk B_h7 hk (Ne.symm n_g1_h7)
  replace B_h8 := kp_blk B_h8 hk (Ne.symm n_g1_h8)
  replace K_0 := K_0.then_ hk (fun k h => by rw [show k = g1 from h]; exact Or.inr z_0_g1)
  replace B_g1 := B_g1'
  clear hk
  refine q0 p57_3_2 hE (st_assign rfl) ?_; clear hE a; intro a hE
  refine p_nil (x_norm (wp_ret (x_ret ?_)))
  refine ret_list (rs := [.cell 2 116, .tmp 3]) (vs := [Value.agg #[Value.string ByteArray.empty, Value.slice none 0 0, Value.int .i64 0, Value.bool false, Value.int .i64 0, Value.int .i64 0], Value.bool false]) rfl hE (.cellN (us := [Value.string ByteArray.empty, Value.slice none 0 0, Value.int .i64 0, Value.bool false, Value.int .i64 0, Value.int .i64 0]) tA116 tS116 rfl B_g1 rfl (.tmp rfl .nil)) rfl ?_
  exact ⟨rfl, K_0⟩
def wordF : Nat → ByteArray
 | 0 => ({ data := #[112, 97, 100] } : ByteArray)
 | 1 => ({ data := #[112, 97, 100, 115] } : ByteArray)
 | 2 => ({ data := #[109, 101, 116, 114, 105, 99] } : ByteArray)
 | 3 => ({ data := #[114, 111, 117, 116, 101] } : ByteArray)
 | 4 => ({ data := #[99, 111, 110, 102, 105, 103] } : ByteArray)
 | 5 => ({ data := #[116, 97, 114, 103, 101, 116] } : ByteArray)
 | 6 => ({ data := #[116, 114, 97, 110, 115, 105, 116] } : ByteArray)
 | 7 => ({ data := #[115, 111, 108, 105, 99, 105, 116, 101, 100] } : ByteArray)
 | 8 => ({ data := #[112, 114, 101, 102, 105, 120] } : ByteArray)
 | 9 => ({ data := #[100, 101, 115, 99, 114, 105, 112, 116, 111, 114] } : ByteArray)
 | _ => ByteArray.empty
def sizesF : Nat → List Int
 | 0 => []
 | 1 => [1]
 | 2 => []
 | 3 => [1, 1, 4]
 | 4 => [1, 1, 1, 1, 2, 2, 2, 1, 1, 2]
 | 5 => [1, 1]
 | 6 => [1, 1, 1, 1]
 | 7 => [1, 1, 1]
 | 8 => [1, 1, 4, 4, 4]
 | 9 => [4]
 | _ => []
def behindF : Nat → Int
 | 0 => 0
 | 1 => 0
 | 2 => 0
 | 3 => 0
 | 4 => 0
 | 5 => 0
 | 6 => 0
 | 7 => 1
 | 8 => 0
 | 9 => 0
 | _ => 0
def addrF : Nat → Bool
 | 0 => false
 | 1 => false
 | 2 => false
 | 3 => true
 | 4 => false
 | 5 => true
 | 6 => false
 | 7 => true
 | 8 => true
 | 9 => false
 | _ => false
def lenF : Nat → Int
 | 0 => (-1)
 | 1 => (-1)
 | 2 => (-1)
 | 3 => 0
 | 4 => (-1)
 | 5 => 1
 | 6 => (-1)
 | 7 => (-1)
 | 8 => 0
 | 9 => (-1)
 | _ => 0
def zeroF : Nat → Int
 | 0 => (-1)
 | 1 => (-1)
 | 2 => (-1)
 | 3 => (-1)
 | 4 => 7
 | 5 => (-1)
 | 6 => (-1)
 | 7 => (-1)
 | 8 => 4
 | 9 => (-1)
 | _ => 0
theorem p57_4_0 : pj (regOf Try.f57 4) 0 = some (some 15, .move (.tmp 4), 191, none) := by kernel_rfl
theorem p57_4_1 : pj (regOf Try.f57 4) 1 = some (some 16, .move (.tmp 0), 3, none) := by kernel_rfl
theorem p57_4_2 : pj (regOf Try.f57 4) 2 = some (some 17, .indexAddr 191 (.tmp 15) (.tmp 16), 0, none) := by kernel_rfl
theorem p57_4_3 : pj (regOf Try.f57 4) 3 = some (some 18, .load 116 (.tmp 17), 116, none) := by kernel_rfl
theorem p57_4_4 : pj (regOf Try.f57 4) 4 = some (none, .store 116 (.tmp 2) (.tmp 18), 0, none) := by kernel_rfl
theorem p57_4_5 : pj (regOf Try.f57 4) 5 = some (some 3, .assign (.const (.bool true)), 4, none) := by kernel_rfl
set_option maxHeartbeats 4000000 in
theorem of_okS (k : Nat) (hk9 : k ≤ 9) (w : World) : Calls Try.prog 57 #[.int .i64 (k : Int)] w fun e w' => ∃ A c, e = .returned (.tuple #[.agg #[.string (wordF k), .slice A (sizesF k).length c, .int .i64 (behindF k), .bool (addrF k), .int .i64 (lenF k), .int .i64 (zeroF k)], .bool true]) ∧ (∀ W', Kp w' W' (fun k => k < w.heap.size) → Kd.C (Kd.int .i64) W' A (sizesF k).length (sizesF k)) ∧ (sizesF k).length ≤ c ∧ Kp w w' (fun _ => False) := by
 have K_0 := Kp.refl w (fun _ => False)
 have hk10 : k = 0 ∨ k = 1 ∨ k = 2 ∨ k = 3 ∨ k = 4 ∨ k = 5 ∨ k = 6 ∨ k = 7 ∨ k = 8 ∨ k = 9 := by omega
 refine enter (args := [Value.int .i64 (k : Int)]) (n := 19) Try.func57 body57 rfl rfl rfl ?_
 intro a hE
 refine c_reg R57_0_l ?_
 refine p_cons (s_alloc p57_0_0 hE wn_none rfl tZ116 ?_)
 clear hE a; intro g1 w2 z3 B_g1 hk a hE
 replace B_g1 : w2.heap[g1]? = some (.cells #[Value.string ByteArray.empty, Value.slice none 0 0, Value.int .i64 0, Value.bool false, Value.int .i64 0, Value.int .i64 0] 116 (0, 0)) := B_g1
 have z_0_g1 := Nat.le_trans K_0.kept.1 z3
 replace K_0 := K_0.then_ hk (fun _ h => h.elim)
 clear hk
 refine q0 p57_0_1 hE (st_assign rfl) ?_; clear hE a; intro a hE
 refine p_nil (x_norm (c_reg R57_1_l ?_))
 refine p_cons (s_call (xs := []) (args := []) p57_1_0 hE wn_none rfl rfl Try.func115 cl115 (forms_ok _) ?_)
 rintro e w4 ⟨h0, h1, h2, h3, h4, h5, h6, h7, h8, rfl, zh0, B_h0, zh1, B_h1, zh2, B_h2, zh3, B_h3, zh4, B_h4, zh5, B_h5, zh6, B_h6, zh7, B_h7, zh8, B_h8, hk⟩
 have n_g1_h0 : g1 ≠ h0 := ne_new B_g1 zh0
 have z_0_h0 := Nat.le_trans K_0.kept.1 zh0
 have n_g1_h1 : g1 ≠ h1 := ne_new B_g1 zh1
 have z_0_h1 := Nat.le_trans K_0.kept.1 zh1
 have n_g1_h2 : g1 ≠ h2 := ne_new B_g1 zh2
 have z_0_h2 := Nat.le_trans K_0.kept.1 zh2
 have n_g1_h3 : g1 ≠ h3 := ne_new B_g1 zh3
 have z_0_h3 := Nat.le_trans K_0.kept.1 zh3
 have n_g1_h4 : g1 ≠ h4 := ne_new B_g1 zh4
 have z_0_h4 := Nat.le_trans K_0.kept.1 zh4
 have n_g1_h5 : g1 ≠ h5 := ne_new B_g1 zh5
 have z_0_h5 := Nat.le_trans K_0.kept.1 zh5
 have n_g1_h6 : g1 ≠ h6 := ne_new B_g1 zh6
 have z_0_h6 := Nat.le_trans K_0.kept.1 zh6
 have n_g1_h7 : g1 ≠ h7 := ne_new B_g1 zh7
 have z_0_h7 := Nat.le_trans K_0.kept.1 zh7
 have n_g1_h8 : g1 ≠ h8 := ne_new B_g1 zh8
 have z_0_h8 := Nat.le_trans K_0.kept.1 zh8
 replace B_g1 := kp_blk B_g1 hk (fun h => h)
 replace K_0 := K_0.then_ hk (fun _ h => h.elim)
 refine ⟨_, rfl, ?_⟩; clear hE a; intro a hE
 refine q0 p57_1_1 hE (st_assign rfl) ?_; clear hE a; intro a hE
 refine p_nil (x_norm (wp_seq (c_reg R57_2_l ?_)))
 refine q0 p57_2_0 hE (st_move rfl) ?_; clear hE a; intro a hE
 refine q0 p57_2_1 hE (st_lss (b := false) rfl rfl (decide_eq_false (by omega))) ?_; clear hE a; intro a hE
 refine q0 p57_2_2 hE (st_move rfl) ?_; clear hE a; intro a hE
 refine p_cons (s_still p57_2_3 hE (wn_some g57_2_2 rfl rfl) rfl (st_move rfl) ?_); clear hE a; intro a hE
 refine p_cons (s_still p57_2_4 hE (wn_some g57_2_2 rfl rfl) rfl (st_move rfl) ?_); clear hE a; intro a hE
 refine p_cons (s_still p57_2_5 hE (wn_some g57_2_2 rfl rfl) rfl (st_len Try.underlying191 rfl) ?_); clear hE a; intro a hE
 refine p_cons (s_still p57_2_6 hE (wn_some g57_2_2 rfl rfl) rfl (st_geq (b := false) rfl rfl (decide_eq_false (by omega))) ?_); clear hE a; intro a hE
 refine q0 p57_2_7 hE (st_pick rfl rfl) ?_; clear hE a; intro a hE
 refine p_nil (x_norm ?_)
 refine c_cond (t := false) hE rfl ?_
 refine wp_skip (x_norm (c_reg R57_4_l ?_))
 refine q0 p57_4_0 hE (st_move rfl) ?_; clear hE a; intro a hE
 refine q0 p57_4_1 hE (st_move rfl) ?_; clear hE a; intro a hE
 refine q0 p57_4_2 hE (st_indexAddr (i := k) Try.underlying191 tS116 rfl rfl (by omega) (add_mk _ _ _)) ?_; clear hE a; intro a hE
 refine q0 p57_4_3 hE (st_loadN (off := 0 + k * 6) (k := 6) (vs := [Value.string (wordF k), Value.slice (([none, some ⟨h0, 0, none⟩, none, some ⟨h1, 0, none⟩, some ⟨h2, 0, none⟩, some ⟨h3, 0, none⟩, some ⟨h4, 0, none⟩, some ⟨h5, 0, none⟩, some ⟨h6, 0, none⟩, some ⟨h7, 0, none⟩] : List (Option Addr)).getD k none) ((sizesF k).length) ((sizesF k).length), Value.int .i64 (behindF k), Value.bool (addrF k), Value.int .i64 (lenF k), Value.int .i64 (zeroF k)]) tA116 tS116 rfl B_h8 (by rcases hk10 with rfl | rfl | rfl | rfl | rfl | rfl | rfl | rfl | rfl | rfl <;> rfl) rfl) ?_; clear hE a; intro a hE
 refine p_cons (s_store (off := 0) (k := 6) (cs' := #[Value.string (wordF k), Value.slice (([none, some ⟨h0, 0, none⟩, none, some ⟨h1, 0, none⟩, some ⟨h2, 0, none⟩, some ⟨h3, 0, none⟩, some ⟨h4, 0, none⟩, some ⟨h5, 0, none⟩, some ⟨h6, 0, none⟩, some ⟨h7, 0, none⟩] : List (Option Addr)).getD k none) ((sizesF k).length) ((sizesF k).length), Value.int .i64 (behindF k), Value.bool (addrF k), Value.int .i64 (lenF k), Value.int .i64 (zeroF k)]) p57_4_4 hE wn_none tS116 rfl rfl rfl rfl B_g1 (Nat.le_of_ble_eq_true rfl) rfl ?_)
 intro w5 B_g1' hk
 replace B_h0 := kp_blk B_h0 hk (Ne.symm n_g1_h0)
 replace B_h1 := kp_blk B_h1 hk (Ne.symm n_g1_h1)
 replace B_h2 := kp_blk B_h2 hk (Ne.symm n_g1_h2)
 replace B_h3 := kp_blk B_h3 hk (Ne.symm n_g1_h3)
 replace B_h4 := kp_blk B_h4 hk (Ne.symm n_g1_h4)
 replace B_h5 := kp_blk B_h5 hk (Ne.symm n_g1_h5)
 replace B_h6 := kp_blk B_h6 hk (Ne.symm n_g1_h6)
 replace B_h7 := kp_blk B_h7 hk (Ne.symm n_g1_h7)
 replace B_h8 := kp_blk B_h8 hk (Ne.symm n_g1_h8)
 replace K_0 := K_0.then_ hk (fun k h => by rw [show k = g1 from h]; exact Or.inr z_0_g1)
 replace B_g1 := B_g1'
 clear hk
 refine q0 p57_4_5 hE (st_assign rfl) ?_; clear hE a; intro a hE
 refine p_nil (x_norm (wp_ret ?_))
 refine ret_list (rs := [.cell 2 116, .tmp 3]) (vs := [Value.agg #[Value.string (wordF k), Value.slice (([none, some ⟨h0, 0, none⟩, none, some ⟨h1, 0, none⟩, some ⟨h2, 0, none⟩, some ⟨h3, 0, none⟩, some ⟨h4, 0, none⟩, some ⟨h5, 0, none⟩, some ⟨h6, 0, none⟩, some ⟨h7, 0, none⟩] : List (Option Addr)).getD k none) ((sizesF k).length) ((sizesF k).length), Value.int .i64 (behindF k), Value.bool (addrF k), Value.int .i64 (lenF k), Value.int .i64 (zeroF k)], Value.bool true]) rfl hE (.cellN (us := [Value.string (wordF k), Value.slice (([none, some ⟨h0, 0, none⟩, none, some ⟨h1, 0, none⟩, some ⟨h2, 0, none⟩, some ⟨h3, 0, none⟩, some ⟨h4, 0, none⟩, some ⟨h5, 0, none⟩, some ⟨h6, 0, none⟩, some ⟨h7, 0, none⟩] : List (Option Addr)).getD k none) ((sizesF k).length) ((sizesF k).length), Value.int .i64 (behindF k), Value.bool (addrF k), Value.int .i64 (lenF k), Value.int .i64 (zeroF k)]) tA116 tS116 rfl B_g1 rfl (.tmp rfl .nil)) rfl ?_
 exact ⟨_, _, rfl, fun W' hk => by
  rcases hk10 with rfl | rfl | rfl | rfl | rfl | rfl | rfl | rfl | rfl | rfl
  · exact Kd.C_nil _ _
  · exact C_blk (k := .i64) (l := [1]) (kp_blk B_h0 hk (fun h => absurd z_0_h0 (Nat.not_le.2 h))) ⟨rfl, Nat.le_of_ble_eq_true rfl⟩ rfl
  · exact Kd.C_nil _ _
  · exact C_blk (k := .i64) (l := [1, 1, 4]) (kp_blk B_h1 hk (fun h => absurd z_0_h1 (Nat.not_le.2 h))) ⟨rfl, Nat.le_of_ble_eq_true rfl⟩ rfl
  · exact C_blk (k := .i64) (l := [1, 1, 1, 1, 2, 2, 2, 1, 1, 2]) (kp_blk B_h2 hk (fun h => absurd z_0_h2 (Nat.not_le.2 h))) ⟨rfl, Nat.le_of_ble_eq_true rfl⟩ rfl
  · exact C_blk (k := .i64) (l := [1, 1]) (kp_blk B_h3 hk (fun h => absurd z_0_h3 (Nat.not_le.2 h))) ⟨rfl, Nat.le_of_ble_eq_true rfl⟩ rfl
  · exact C_blk (k := .i64) (l := [1, 1, 1, 1]) (kp_blk B_h4 hk (fun h => absurd z_0_h4 (Nat.not_le.2 h))) ⟨rfl, Nat.le_of_ble_eq_true rfl⟩ rfl
  · exact C_blk (k := .i64) (l := [1, 1, 1]) (kp_blk B_h5 hk (fun h => absurd z_0_h5 (Nat.not_le.2 h))) ⟨rfl, Nat.le_of_ble_eq_true rfl⟩ rfl
  · exact C_blk (k := .i64) (l := [1, 1, 4, 4, 4]) (kp_blk B_h6 hk (fun h => absurd z_0_h6 (Nat.not_le.2 h))) ⟨rfl, Nat.le_of_ble_eq_true rfl⟩ rfl
  · exact C_blk (k := .i64) (l := [4]) (kp_blk B_h7 hk (fun h => absurd z_0_h7 (Nat.not_le.2 h))) ⟨rfl, Nat.le_of_ble_eq_true rfl⟩ rfl, Nat.le_refl _, K_0⟩
theorem of_ok (k : Nat) (hk : k ≤ 9) (w : World) : Calls Try.prog 57 #[.int .i64 (k : Int)] w fun e w' => ∃ A c, e = .returned (.tuple #[.agg #[.string (wordF k), .slice A (sizesF k).length c, .int .i64 (behindF k), .bool (addrF k), .int .i64 (lenF k), .int .i64 (zeroF k)], .bool true]) ∧ (∀ W', Kp w' W' (fun _ => False) → Kd.C (Kd.int .i64) W' A (sizesF k).length (sizesF k)) ∧ (sizesF k).length ≤ c ∧ Kp w w' (fun _ => False) := by
 refine (of_okS k hk w).mono ?_
 rintro e w' ⟨A, c, rfl, hF, hc, hK⟩
 exact ⟨A, c, rfl, fun W' h => hF W' (h.mono (fun _ h => h.elim)), hc, hK⟩
end Go.Proofs.Ytgpclehnomkbmaa.Op
