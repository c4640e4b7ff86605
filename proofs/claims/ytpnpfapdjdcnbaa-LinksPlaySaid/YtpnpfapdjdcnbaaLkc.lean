/- Package links: Copy, Cut, Connected, Measure. -/
import Derived.Test.YtpnpfapdjdcnbaaLkh
import Derived.Test.YtpnpfapdjdcnbaaLkm
import Derived.Test.YtpnpfapdjdcnbaaLvl
import Derived.Test.YtpnpfapdjdcnbaaLsh
import Derived.Test.YtpnpfapdjdcnbaaMek
import Derived.LoopN
set_option maxRecDepth 100000
set_option linter.unusedVariables false
set_option linter.unusedSimpArgs false
namespace Go.Proofs.Ytpnpfapdjdcnbaa.Lc
open Go.RowKit Go.Proofs.YtpnpfapdjdcnbaaW.PrintWords Go.Proofs.Ytpnpfapdjdcnbaa.Ds Go.Proofs.Ytpnpfapdjdcnbaa.Lk Go.Proofs.Ytpnpfapdjdcnbaa.Ln
open Go.Proofs.Ytpnpfapdjdcnbaa.Pk (Kp)
open Go.Proofs.Ytpnpfapdjdcnbaa.Mp (x_normS x_retS x_exitS)
def delR (f : Int → Int → Option Int) (x : Int) (ys : List Int) : Int → Int → Option Int := ys.foldl (fun f y => Lm.delF f (min x y) (max x y)) f
theorem delR_next {f : Int → Int → Option Int} {x y : Int} {ys : List Int} {j : Nat} (h : ys[j]? = some y) : delR f x (ys.take (j + 1)) = Lm.delF (delR f x (ys.take j)) (min x y) (max x y) := by
  unfold delR
  rw [List.take_add_one, h, List.foldl_append]
  rfl
theorem delR_get (x : Int) : ∀ (ys : List Int) (f : Int → Int → Option Int) (a b : Int), delR f x ys a b = if ∃ y ∈ ys, a = min x y ∧ b = max x y then none else f a b
  | [], f, a, b => by simp [delR]
  | y :: ys, f, a, b => by
    show delR (Lm.delF f (min x y) (max x y)) x ys a b = _
    rw [delR_get x ys]
    by_cases h1 : ∃ y ∈ ys, a = min x y ∧ b = max x y
    · rw [if_pos h1, if_pos (by obtain ⟨z, hz, h⟩ := h1; exact ⟨z, List.mem_cons_of_mem _ hz, h⟩)]
    · rw [if_neg h1]
      unfold Lm.delF
      by_cases h2 : a = min x y ∧ b = max x y
      · rw [if_pos h2, if_pos ⟨y, List.mem_cons_self .., h2⟩]
      · rw [if_neg h2, if_neg (by rintro ⟨z, hz, h⟩; rcases List.mem_cons.1 hz with rfl | hz; exact h2 h; exact h1 ⟨z, hz, h⟩)]
theorem nbs_nodup (n : Int) (f : Int → Int → Option Int) (x : Int) (m : Nat) : (nbs n f x m).Nodup := by
  unfold nbs
  exact List.pairwise_map.2 ((List.Pairwise.filter _ List.nodup_range).imp (fun h e => h (by omega)))
theorem delR_some {f : Int → Int → Option Int} {x y v : Int} {ys : List Int} {j : Nat} (hn : ys.Nodup) (h : ys[j]? = some y) (hf : f (min x y) (max x y) = some v) : delR f x (ys.take j) (min x y) (max x y) = some v := by
  rw [delR_get, if_neg]
  · exact hf
  · rintro ⟨z, hz, h1, h2⟩
    have hzy : z = y := by omega
    subst hzy
    obtain ⟨i, hi, e⟩ := List.getElem_of_mem hz
    rw [List.length_take] at hi
    rw [List.getElem_take] at e
    obtain ⟨hj, e2⟩ := List.getElem?_eq_some_iff.1 h
    have := (List.getElem_inj hn).1 (e.trans e2.symm)
    omega
theorem cost_some {n : Int} {f : Int → Int → Option Int} {x y : Int} (h : (costP n f x y).2 = 0) : ∃ v, f (min x y) (max x y) = some v := by
  unfold costP at h
  split at h
  · cases hf : f (min x y) (max x y) with
    | none => rw [hf] at h; cases h
    | some v => exact ⟨v, rfl⟩
  · cases h
theorem clone_any (gm ck : Nat) (es : Array MapEntry) (w : World) (hm : w.heap[gm]? = some (.map es ck)) : Calls Try.prog 58 #[.map (some gm)] w fun e w' => ∃ b, w.heap.size ≤ b ∧ e = .returned (.map (some b)) ∧ w'.heap[b]? = some (.map es ck) ∧ Kp w w' (fun _ => False) := by
  refine (AnyW.maps_Clone Try.cloneP gm es ck w hm).mono ?_
  rintro e w' ⟨rfl, rfl⟩
  exact ⟨_, Nat.le_refl _, rfl, (Go.MapKept.heap_alloc w _).1, kp_alloc w _⟩
theorem R35_0_l : List.range (regOf Try.f35 0).size = [0] := by kernel_rfl
theorem R35_1_l : List.range (regOf Try.f35 1).size = [0, 1] := by kernel_rfl
theorem R35_2_l : List.range (regOf Try.f35 2).size = [0] := by kernel_rfl
theorem R35_3_l : List.range (regOf Try.f35 3).size = [0, 1, 2, 3, 4, 5, 6, 7, 8, 9, 10, 11] := by kernel_rfl
theorem body35 : Try.f35.body = some (.seq (.region 0 (regOf Try.f35 0) false) (.seq (.seq (.region 1 (regOf Try.f35 1) false) (.cond (Operand.tmp 4) (.seq (.region 2 (regOf Try.f35 2) false) (.ret)) (.skip))) (.seq (.region 3 (regOf Try.f35 3) true) (.ret)))) := by kernel_rfl
theorem p35_0_0 : pj (regOf Try.f35 0) 0 = some (some 2, .assign (.const (.pointer none)), 56, none) := by kernel_rfl
theorem p35_1_0 : pj (regOf Try.f35 1) 0 = some (some 3, .move (.tmp 0), 56, none) := by kernel_rfl
theorem p35_1_1 : pj (regOf Try.f35 1) 1 = some (some 4, .binOp .eql 56 (.tmp 3) (.const (.pointer none)) 56, 4, none) := by kernel_rfl
theorem tP56 : Try.prog.underlying 56 = some (.pointer (Try.prog.pointee 56)) := by kernel_rfl
theorem ns35_3 : Region.noSelect (regOf Try.f35 3) = true := by kernel_rfl
theorem p35_3_0 : pj (regOf Try.f35 3) 0 = some (some 5, .move (.tmp 0), 56, none) := by kernel_rfl
theorem p35_3_1 : pj (regOf Try.f35 3) 1 = some (some 6, .nilCheck (.tmp 5), 0, none) := by kernel_rfl
theorem p35_3_2 : pj (regOf Try.f35 3) 2 = some (some 7, .fieldAddr 83 (.tmp 6) 0, 0, none) := by kernel_rfl
theorem tS3 : (Try.prog.info? 3).map (·.size) = some 1 := by kernel_rfl
theorem p35_3_3 : pj (regOf Try.f35 3) 3 = some (some 8, .load 3 (.tmp 7), 3, none) := by kernel_rfl
theorem tA3 : (Try.prog.underlying 3).map aggD = some false := by kernel_rfl
theorem p35_3_4 : pj (regOf Try.f35 3) 4 = some (some 9, .move (.tmp 0), 56, none) := by kernel_rfl
theorem p35_3_5 : pj (regOf Try.f35 3) 5 = some (some 10, .nilCheck (.tmp 9), 0, none) := by kernel_rfl
theorem p35_3_6 : pj (regOf Try.f35 3) 6 = some (some 11, .fieldAddr 83 (.tmp 10) 1, 0, none) := by kernel_rfl
theorem tS81 : (Try.prog.info? 81).map (·.size) = some 1 := by kernel_rfl
theorem p35_3_7 : pj (regOf Try.f35 3) 7 = some (some 12, .load 81 (.tmp 11), 81, none) := by kernel_rfl
theorem tA81 : (Try.prog.underlying 81).map aggD = some false := by kernel_rfl
theorem p35_3_8 : pj (regOf Try.f35 3) 8 = some (some 13, .call { callee := .value (.func 58), args := #[.tmp 12], argTypes := #[81] }, 81, none) := by kernel_rfl
theorem cl58 : callable Try.f58 = true := by kernel_rfl
theorem p35_3_9 : pj (regOf Try.f35 3) 9 = some (some 14, .build 83 #[(0, .tmp 8), (1, .tmp 13)], 83, none) := by kernel_rfl
theorem p35_3_10 : pj (regOf Try.f35 3) 10 = some (some 15, .box 83 (.tmp 14), 56, none) := by kernel_rfl
theorem p35_3_11 : pj (regOf Try.f35 3) 11 = some (some 2, .assign (.tmp 15), 56, none) := by kernel_rfl
set_option maxHeartbeats 4000000 in
theorem copy_any (g gm ck : Nat) (es : Array MapEntry) (f : Int → Int → Option Int) (n : Int) (w : World) (hg : w.heap[g]? = some (.cells #[.int .i64 n, .map (some gm)] 83 (0, 0))) (hm : w.heap[gm]? = some (.map es ck)) (hF : Mp.MapF es f) (hne : g ≠ gm) : Calls Try.prog 35 #[.pointer (some ⟨g, 0, none⟩)] w fun e w' => ∃ b m, e = .returned (.pointer (some ⟨b, 0, none⟩)) ∧ w.heap.size ≤ b ∧ w.heap.size ≤ m ∧ b ≠ m ∧ w'.heap[b]? = some (.cells #[.int .i64 n, .map (some m)] 83 (0, 0)) ∧ w'.heap[m]? = some (.map es ck) ∧ Kp w w' (fun _ => False) := by
  have K_0 := Kp.refl w (fun _ => False)
  have B_g := hg
  have B_gm := hm
  have n_g_gm := hne
  refine enter (args := [Value.pointer (some ⟨g, 0, none⟩)]) (n := 16) Try.func35 body35 rfl rfl rfl ?_
  intro a hE
  refine c_reg R35_0_l ?_
  refine q0 p35_0_0 hE (st_assign rfl) ?_
  clear hE a; intro a hE
  refine p_nil ?_
  refine x_norm ?_
  refine wp_seq ?_
  refine c_reg R35_1_l ?_
  refine q0 p35_1_0 hE (st_move rfl) ?_
  clear hE a; intro a hE
  refine q0 p35_1_1 hE (st_eqlP (b := false) tP56 rfl rfl rfl) ?_
  clear hE a; intro a hE
  refine p_nil ?_
  refine x_norm ?_
  refine c_cond (t := false) hE rfl ?_
  refine wp_skip ?_
  refine x_norm ?_
  refine c_drawS (S := fun W => W.heap[g]? = some (.cells #[Value.int .i64 n, Value.map (some gm)] 83 (0, 0)) ∧ W.heap[gm]? = some (.map es ck) ∧ True) rfl rfl (listed := #[false, false, false, false, false, false, false, false, false, false, false, false]) rfl ?_
  intro w1 hh hk
  replace B_g := kp_blk B_g hk (fun h => h)
  replace B_gm := kp_blk B_gm hk (fun h => h)
  replace K_0 := K_0.then_ hk (fun _ h => h.elim)
  clear hh hk
  refine d_take (v := Value.pointer (some ⟨g, 0, none⟩)) p35_3_0 ns35_3 (by kernel_rfl) (by kernel_rfl) (fun _ _ _ h => h) hE wn_none rfl ⟨B_g, B_gm, trivial⟩ (fun W hS => (st_move rfl)) rfl ?_
  clear hE a; intro a hE
  refine d_take (v := Value.pointer (some ⟨g, 0, none⟩)) p35_3_1 ns35_3 (by kernel_rfl) (by kernel_rfl) (fun _ _ _ h => h) hE wn_none rfl ⟨B_g, B_gm, trivial⟩ (fun W hS => (st_nil rfl)) rfl ?_
  clear hE a; intro a hE
  refine d_take (v := Value.pointer (some ⟨g, 0, none⟩)) p35_3_2 ns35_3 (by kernel_rfl) (by kernel_rfl) (fun _ _ _ h => h) hE wn_none rfl ⟨B_g, B_gm, trivial⟩ (fun W hS => (st_fieldAddr Try.underlying83 rfl tS3 rfl rfl)) rfl ?_
  clear hE a; intro a hE
  refine d_take (v := Value.int .i64 n) p35_3_3 ns35_3 (by kernel_rfl) (by kernel_rfl) (fun _ _ _ h => h) hE wn_none rfl ⟨B_g, B_gm, trivial⟩ (fun W hS => (st_load1 tA3 rfl ((blk_cell hS.1 0).trans rfl))) rfl ?_
  clear hE a; intro a hE
  refine d_take (v := Value.pointer (some ⟨g, 0, none⟩)) p35_3_4 ns35_3 (by kernel_rfl) (by kernel_rfl) (fun _ _ _ h => h) hE wn_none rfl ⟨B_g, B_gm, trivial⟩ (fun W hS => (st_move rfl)) rfl ?_
  clear hE a; intro a hE
  refine d_take (v := Value.pointer (some ⟨g, 0, none⟩)) p35_3_5 ns35_3 (by kernel_rfl) (by kernel_rfl) (fun _ _ _ h => h) hE wn_none rfl ⟨B_g, B_gm, trivial⟩ (fun W hS => (st_nil rfl)) rfl ?_
  clear hE a; intro a hE
  refine d_take (v := Value.pointer (some ⟨g, 1, none⟩)) p35_3_6 ns35_3 (by kernel_rfl) (by kernel_rfl) (fun _ _ _ h => h) hE wn_none rfl ⟨B_g, B_gm, trivial⟩ (fun W hS => (st_fieldAddr Try.underlying83 rfl tS81 rfl rfl)) rfl ?_
  clear hE a; intro a hE
  refine d_take (v := Value.map (some gm)) p35_3_7 ns35_3 (by kernel_rfl) (by kernel_rfl) (fun _ _ _ h => h) hE wn_none rfl ⟨B_g, B_gm, trivial⟩ (fun W hS => (st_load1 tA81 rfl ((blk_cell hS.1 1).trans rfl))) rfl ?_
  clear hE a; intro a hE
  refine d_one (by kernel_rfl) rfl (s_call (xs := [Operand.tmp 12]) (args := [Value.map (some gm)]) p35_3_8 hE wn_none rfl rfl Try.func58 cl58 (clone_any gm ck es _ B_gm) ?_)
  rintro e w4 ⟨gc2, z3, rfl, B_gc2, hk⟩
  have n_g_gc2 : g ≠ gc2 := ne_new B_g z3
  have n_gm_gc2 : gm ≠ gc2 := ne_new B_gm z3
  have z_0_gc2 := Nat.le_trans K_0.kept.1 z3
  replace B_g := kp_blk B_g hk (fun h => h)
  replace B_gm := kp_blk B_gm hk (fun h => h)
  replace K_0 := K_0.then_ hk (fun _ h => h.elim)
  refine ⟨_, rfl, ?_⟩
  clear hE a; intro a hE
  refine ⟨⟨B_g, B_gm, trivial⟩, ?_⟩
  refine d_take (v := Value.agg #[Value.int .i64 n, Value.map (some gc2)]) p35_3_9 ns35_3 (by kernel_rfl) (by kernel_rfl) (fun _ _ _ h => h) hE wn_none rfl ⟨B_g, B_gm, trivial⟩ (fun W hS => (st_build (xs := [(0, Operand.tmp 8), (1, Operand.tmp 13)]) (vs := [(0, Value.int .i64 n), (1, Value.map (some gc2))]) (cs := #[Value.int .i64 n, Value.map (some gc2)]) rfl (by kernel_rfl))) rfl ?_
  clear hE a; intro a hE
  refine d_one (by kernel_rfl) rfl (s_box p35_3_10 hE wn_none rfl rfl ?_)
  clear hE a; intro g5 w6 z7 B_g5 hk a hE
  replace B_g5 : w6.heap[g5]? = some (.cells #[Value.int .i64 n, Value.map (some gc2)] 83 (0, 0)) := B_g5
  have n_g_g5 : g ≠ g5 := ne_new B_g z7
  have n_gm_g5 : gm ≠ g5 := ne_new B_gm z7
  have n_gc2_g5 : gc2 ≠ g5 := ne_new B_gc2 z7
  have z_0_g5 := Nat.le_trans K_0.kept.1 z7
  replace B_g := kp_blk B_g hk (fun h => h)
  replace B_gm := kp_blk B_gm hk (fun h => h)
  replace B_gc2 := kp_blk B_gc2 hk (fun h => h)
  replace K_0 := K_0.then_ hk (fun _ h => h.elim)
  clear hk
  refine ⟨⟨B_g, B_gm, trivial⟩, ?_⟩
  refine d_take (v := Value.pointer (some ⟨g5, 0, none⟩)) p35_3_11 ns35_3 (by kernel_rfl) (by kernel_rfl) (fun _ _ _ h => h) hE wn_none rfl ⟨B_g, B_gm, trivial⟩ (fun W hS => (st_assign rfl)) rfl ?_
  clear hE a; intro a hE
  refine d_end (by kernel_rfl) ?_
  refine x_norm ?_
  refine wp_ret ?_
  refine ret_one (v := Value.pointer (some ⟨g5, 0, none⟩)) rfl hE (.tmp rfl .nil) ?_
  exact ⟨g5, gc2, rfl, z_0_g5, z_0_gc2, (Ne.symm n_gc2_g5), B_g5, B_gc2, K_0⟩
theorem R36_0_l : List.range (regOf Try.f36 0).size = [0, 1] := by kernel_rfl
theorem R36_1_l : List.range (regOf Try.f36 1).size = [0, 1] := by kernel_rfl
theorem R36_2_l : List.range (regOf Try.f36 2).size = [0, 1] := by kernel_rfl
theorem R36_3_l : List.range (regOf Try.f36 3).size = [0, 1, 2, 3, 4, 5] := by kernel_rfl
theorem R36_4_l : List.range (regOf Try.f36 4).size = [0] := by kernel_rfl
theorem R36_5_l : List.range (regOf Try.f36 5).size = [0, 1, 2] := by kernel_rfl
theorem R36_6_l : List.range (regOf Try.f36 6).size = [0, 1, 2, 3] := by kernel_rfl
theorem R36_7_l : List.range (regOf Try.f36 7).size = [0, 1] := by kernel_rfl
theorem R36_8_l : List.range (regOf Try.f36 8).size = [0, 1] := by kernel_rfl
theorem R36_9_l : List.range (regOf Try.f36 9).size = [0, 1, 2] := by kernel_rfl
theorem R36_10_l : List.range (regOf Try.f36 10).size = [0, 1, 2, 3] := by kernel_rfl
theorem R36_11_l : List.range (regOf Try.f36 11).size = [0, 1, 2, 3, 4, 5] := by kernel_rfl
theorem R36_12_l : List.range (regOf Try.f36 12).size = [0, 1, 2] := by kernel_rfl
theorem R36_13_l : List.range (regOf Try.f36 13).size = [0] := by kernel_rfl
theorem R36_14_l : List.range (regOf Try.f36 14).size = [0, 1, 2] := by kernel_rfl
theorem R36_15_l : List.range (regOf Try.f36 15).size = [0, 1, 2, 3, 4, 5, 6, 7] := by kernel_rfl
theorem R36_16_l : List.range (regOf Try.f36 16).size = [0, 1] := by kernel_rfl
theorem R36_17_l : List.range (regOf Try.f36 17).size = [0, 1, 2, 3, 4, 5, 6, 7, 8] := by kernel_rfl
theorem body36 : Try.f36.body = some (.seq (.region 0 (regOf Try.f36 0) false) (.seq (.seq (.region 1 (regOf Try.f36 1) false) (.cond (Operand.tmp 14) (.seq (.region 2 (regOf Try.f36 2) false) (.ret)) (.skip))) (.seq (.seq (.region 3 (regOf Try.f36 3) false) (.block 0 (.loop (.seq (.region 4 (regOf Try.f36 4) false) (.seq (.cond (Operand.tmp 21) (.skip) (.exit 0)) (.seq (.block 1 (.seq (.region 5 (regOf Try.f36 5) false) (.seq (.region 6 (regOf Try.f36 6) false) (.cond (Operand.tmp 27) (.seq (.region 7 (regOf Try.f36 7) false) (.ret)) (.skip))))) (.region 8 (regOf Try.f36 8) false))))))) (.seq (.seq (.region 9 (regOf Try.f36 9) false) (.cond (Operand.tmp 31) (.region 10 (regOf Try.f36 10) false) (.skip))) (.seq (.region 11 (regOf Try.f36 11) false) (.seq (.seq (.region 12 (regOf Try.f36 12) false) (.block 2 (.loop (.seq (.region 13 (regOf Try.f36 13) false) (.seq (.cond (Operand.tmp 43) (.skip) (.exit 2)) (.seq (.block 3 (.seq (.region 14 (regOf Try.f36 14) false) (.region 15 (regOf Try.f36 15) true))) (.region 16 (regOf Try.f36 16) false))))))) (.seq (.region 17 (regOf Try.f36 17) false) (.ret)))))))) := by kernel_rfl
theorem p36_0_0 : pj (regOf Try.f36 0) 0 = some (some 6, .assign (.const (.int .i64 0)), 3, none) := by kernel_rfl
theorem p36_0_1 : pj (regOf Try.f36 0) 1 = some (some 7, .assign (.const (.int .i64 0)), 23, none) := by kernel_rfl
theorem p36_1_0 : pj (regOf Try.f36 1) 0 = some (some 13, .move (.tmp 0), 56, none) := by kernel_rfl
theorem p36_1_1 : pj (regOf Try.f36 1) 1 = some (some 14, .binOp .eql 56 (.tmp 13) (.const (.pointer none)) 56, 4, none) := by kernel_rfl
theorem p36_3_0 : pj (regOf Try.f36 3) 0 = some (some 15, .move (.tmp 1), 3, none) := by kernel_rfl
theorem p36_3_1 : pj (regOf Try.f36 3) 1 = some (some 16, .buildSlice 52 1 #[(0, .tmp 15)], 52, none) := by kernel_rfl
theorem p36_3_2 : pj (regOf Try.f36 3) 2 = some (some 17, .move (.tmp 2), 52, none) := by kernel_rfl
theorem p36_3_3 : pj (regOf Try.f36 3) 3 = some (some 18, .call { callee := .builtin .append, args := #[.tmp 16, .tmp 17], argTypes := #[52, 52] }, 52, none) := by kernel_rfl
theorem eD3 : elemD Try.prog 3 = some (1, 1, 8) := by kernel_rfl
theorem p36_3_4 : pj (regOf Try.f36 3) 4 = some (some 19, .call { callee := .builtin .len, args := #[.tmp 18], argTypes := #[52] }, 3, none) := by kernel_rfl
theorem p36_3_5 : pj (regOf Try.f36 3) 5 = some (some 20, .move (.const (.int .i64 0)), 3, none) := by kernel_rfl
theorem p36_4_0 : pj (regOf Try.f36 4) 0 = some (some 21, .binOp .lss 3 (.tmp 20) (.tmp 19) 3, 0, none) := by kernel_rfl
theorem p36_5_0 : pj (regOf Try.f36 5) 0 = some (some 22, .indexAddr 52 (.tmp 18) (.tmp 20), 0, none) := by kernel_rfl
theorem p36_5_1 : pj (regOf Try.f36 5) 1 = some (some 23, .load 3 (.tmp 22), 3, none) := by kernel_rfl
theorem p36_5_2 : pj (regOf Try.f36 5) 2 = some (some 9, .assign (.tmp 23), 3, none) := by kernel_rfl
theorem p36_6_0 : pj (regOf Try.f36 6) 0 = some (some 24, .move (.tmp 0), 56, none) := by kernel_rfl
theorem p36_6_1 : pj (regOf Try.f36 6) 1 = some (some 25, .move (.tmp 9), 3, none) := by kernel_rfl
theorem p36_6_2 : pj (regOf Try.f36 6) 2 = some (some 26, .call { callee := .value (.func 55), args := #[.tmp 24, .tmp 25], argTypes := #[56, 3] }, 4, none) := by kernel_rfl
theorem cl55 : callable Try.f55 = true := by kernel_rfl
theorem p36_6_3 : pj (regOf Try.f36 6) 3 = some (some 27, .unOp .not 4 (.tmp 26), 4, none) := by kernel_rfl
theorem p36_8_0 : pj (regOf Try.f36 8) 0 = some (some 28, .binOp .add 3 (.tmp 20) (.const (.int .i64 1)) 3, 3, none) := by kernel_rfl
theorem p36_8_1 : pj (regOf Try.f36 8) 1 = some (some 20, .move (.tmp 28), 3, none) := by kernel_rfl
theorem p36_9_0 : pj (regOf Try.f36 9) 0 = some (some 29, .move (.tmp 2), 52, none) := by kernel_rfl
theorem p36_9_1 : pj (regOf Try.f36 9) 1 = some (some 30, .call { callee := .builtin .len, args := #[.tmp 29], argTypes := #[52] }, 3, none) := by kernel_rfl
theorem p36_9_2 : pj (regOf Try.f36 9) 2 = some (some 31, .binOp .eql 3 (.tmp 30) (.const (.int .i64 0)) 3, 4, none) := by kernel_rfl
theorem p36_11_0 : pj (regOf Try.f36 11) 0 = some (some 35, .move (.tmp 0), 56, none) := by kernel_rfl
theorem p36_11_1 : pj (regOf Try.f36 11) 1 = some (some 36, .nilCheck (.tmp 35), 0, none) := by kernel_rfl
theorem p36_11_2 : pj (regOf Try.f36 11) 2 = some (some 37, .fieldAddr 83 (.tmp 36) 1, 0, none) := by kernel_rfl
theorem p36_11_3 : pj (regOf Try.f36 11) 3 = some (some 38, .load 81 (.tmp 37), 81, none) := by kernel_rfl
theorem p36_11_4 : pj (regOf Try.f36 11) 4 = some (some 39, .call { callee := .builtin .len, args := #[.tmp 38], argTypes := #[81] }, 3, none) := by kernel_rfl
theorem p36_11_5 : pj (regOf Try.f36 11) 5 = some (some 10, .assign (.tmp 39), 3, none) := by kernel_rfl
theorem p36_12_0 : pj (regOf Try.f36 12) 0 = some (some 40, .move (.tmp 2), 52, none) := by kernel_rfl
theorem p36_12_1 : pj (regOf Try.f36 12) 1 = some (some 41, .call { callee := .builtin .len, args := #[.tmp 40], argTypes := #[52] }, 3, none) := by kernel_rfl
theorem p36_12_2 : pj (regOf Try.f36 12) 2 = some (some 42, .move (.const (.int .i64 0)), 3, none) := by kernel_rfl
theorem p36_13_0 : pj (regOf Try.f36 13) 0 = some (some 43, .binOp .lss 3 (.tmp 42) (.tmp 41) 3, 0, none) := by kernel_rfl
theorem p36_14_0 : pj (regOf Try.f36 14) 0 = some (some 44, .indexAddr 52 (.tmp 40) (.tmp 42), 0, none) := by kernel_rfl
theorem p36_14_1 : pj (regOf Try.f36 14) 1 = some (some 45, .load 3 (.tmp 44), 3, none) := by kernel_rfl
theorem p36_14_2 : pj (regOf Try.f36 14) 2 = some (some 12, .assign (.tmp 45), 3, none) := by kernel_rfl
theorem ns36_15 : Region.noSelect (regOf Try.f36 15) = true := by kernel_rfl
theorem p36_15_0 : pj (regOf Try.f36 15) 0 = some (some 46, .move (.tmp 0), 56, none) := by kernel_rfl
theorem p36_15_1 : pj (regOf Try.f36 15) 1 = some (some 47, .nilCheck (.tmp 46), 0, none) := by kernel_rfl
theorem p36_15_2 : pj (regOf Try.f36 15) 2 = some (some 48, .fieldAddr 83 (.tmp 47) 1, 0, none) := by kernel_rfl
theorem p36_15_3 : pj (regOf Try.f36 15) 3 = some (some 49, .load 81 (.tmp 48), 81, none) := by kernel_rfl
theorem p36_15_4 : pj (regOf Try.f36 15) 4 = some (some 50, .move (.tmp 1), 3, none) := by kernel_rfl
theorem p36_15_5 : pj (regOf Try.f36 15) 5 = some (some 51, .move (.tmp 12), 3, none) := by kernel_rfl
theorem p36_15_6 : pj (regOf Try.f36 15) 6 = some (some 52, .call { callee := .value (.func 54), args := #[.tmp 50, .tmp 51], argTypes := #[3, 3] }, 86, none) := by kernel_rfl
theorem cl54 : callable Try.f54 = true := by kernel_rfl
theorem p36_15_7 : pj (regOf Try.f36 15) 7 = some (none, .call { callee := .builtin .delete, args := #[.tmp 49, .tmp 52], argTypes := #[81, 86] }, 0, none) := by kernel_rfl
theorem mk86 : flat Try.prog 9 86 = some [some .i64, some .i64] := Eq.trans (Mp.flat_pair Try.underlying86 Try.underlying3 (by kernel_rfl) (by kernel_rfl)) rfl
theorem p36_16_0 : pj (regOf Try.f36 16) 0 = some (some 53, .binOp .add 3 (.tmp 42) (.const (.int .i64 1)) 3, 3, none) := by kernel_rfl
theorem p36_16_1 : pj (regOf Try.f36 16) 1 = some (some 42, .move (.tmp 53), 3, none) := by kernel_rfl
theorem p36_17_0 : pj (regOf Try.f36 17) 0 = some (some 54, .move (.tmp 10), 3, none) := by kernel_rfl
theorem p36_17_1 : pj (regOf Try.f36 17) 1 = some (some 55, .move (.tmp 0), 56, none) := by kernel_rfl
theorem p36_17_2 : pj (regOf Try.f36 17) 2 = some (some 56, .nilCheck (.tmp 55), 0, none) := by kernel_rfl
theorem p36_17_3 : pj (regOf Try.f36 17) 3 = some (some 57, .fieldAddr 83 (.tmp 56) 1, 0, none) := by kernel_rfl
theorem p36_17_4 : pj (regOf Try.f36 17) 4 = some (some 58, .load 81 (.tmp 57), 81, none) := by kernel_rfl
theorem p36_17_5 : pj (regOf Try.f36 17) 5 = some (some 59, .call { callee := .builtin .len, args := #[.tmp 58], argTypes := #[81] }, 3, none) := by kernel_rfl
theorem p36_17_6 : pj (regOf Try.f36 17) 6 = some (some 60, .binOp .sub 3 (.tmp 54) (.tmp 59) 3, 3, none) := by kernel_rfl
theorem p36_17_7 : pj (regOf Try.f36 17) 7 = some (some 6, .assign (.tmp 60), 3, none) := by kernel_rfl
theorem p36_17_8 : pj (regOf Try.f36 17) 8 = some (some 7, .assign (.const (.int .i64 0)), 23, none) := by kernel_rfl
set_option maxHeartbeats 4000000 in
theorem cut1_ok (g gm ck nn : Nat) (es : Array MapEntry) (f : Int → Int → Option Int)  (x y : Int) (b : Nat) (hn1 : nodeB (nn : Int) x = true) (hn2 : nodeB (nn : Int) y = true) (w : World) (hb9 : w.heap[b]? = some (.cells #[.int .i64 y] 3 (0, 0))) (hgb : g ≠ b) (hg : w.heap[g]? = some (.cells #[.int .i64 (nn : Int), .map (some gm)] 83 (0, 0))) (hm : w.heap[gm]? = some (.map es ck)) (hF : Mp.MapF es f) (hne : g ≠ gm) : Calls Try.prog 36 #[.pointer (some ⟨g, 0, none⟩), .int .i64 x, .slice (some ⟨b, 0, none⟩) 1 1] w fun e w' => ∃ es', e = .returned (.tuple #[.int .i64 (if (f (min x y) (max x y)).isSome then 1 else 0), .int .i64 0]) ∧ Mp.MapF es' (Lm.delF f (min x y) (max x y)) ∧ w'.heap[gm]? = some (.map es' ck) ∧ Kp w w' (fun k => k = gm) := by
  have K_0 := Kp.refl w (fun k => k = gm)
  have B_g := hg
  have B_gm := hm
  have n_g_gm := hne
  have B_b := hb9
  have n_g_b : g ≠ b := hgb
  have n_gm_b : gm ≠ b := fun e => by rw [e] at hm; rw [hm] at hb9; cases hb9
  refine enter (args := [Value.pointer (some ⟨g, 0, none⟩), Value.int .i64 x, Value.slice (some ⟨b, 0, none⟩) 1 1]) (n := 61) Try.func36 body36 rfl rfl rfl ?_
  intro a hE
  refine c_reg R36_0_l ?_
  refine q0 p36_0_0 hE (st_assign rfl) ?_
  clear hE a; intro a hE
  refine q0 p36_0_1 hE (st_assign rfl) ?_
  clear hE a; intro a hE
  refine p_nil ?_
  refine x_norm ?_
  refine wp_seq ?_
  have hN1 := hn1
  have hN2 := hn2
  refine c_reg R36_1_l ?_
  refine q0 p36_1_0 hE (st_move rfl) ?_
  clear hE a; intro a hE
  refine q0 p36_1_1 hE (st_eqlP (b := false) tP56 rfl rfl rfl) ?_
  clear hE a; intro a hE
  refine p_nil ?_
  refine x_norm ?_
  refine c_cond (t := false) hE rfl ?_
  refine wp_skip ?_
  refine x_norm ?_
  refine wp_seq ?_
  refine c_reg R36_3_l ?_
  refine q0 p36_3_0 hE (st_move rfl) ?_
  clear hE a; intro a hE
  refine p_cons (s_row (xs := [(0, Operand.tmp 15)]) (vs := [(0, Value.int .i64 x)]) (cs := #[Value.int .i64 x]) p36_3_1 hE wn_none rfl Try.underlying52 rfl (by kernel_rfl) ?_)
  clear hE a; intro g1 w2 z3 B_g1 hk a hE
  have n_g_g1 : g ≠ g1 := ne_new B_g z3
  have n_gm_g1 : gm ≠ g1 := ne_new B_gm z3
  have n_b_g1 : b ≠ g1 := ne_new B_b z3
  have z_0_g1 := Nat.le_trans K_0.kept.1 z3
  replace B_g := kp_blk B_g hk (fun h => h)
  replace B_gm := kp_blk B_gm hk (fun h => h)
  replace B_b := kp_blk B_b hk (fun h => h)
  replace K_0 := K_0.then_ hk (fun _ h => h.elim)
  clear hk
  refine q0 p36_3_2 hE (st_move rfl) ?_
  clear hE a; intro a hE
  have O_q4 := own_blk9 (k := .i64) (l := [x]) B_g1 (show w.heap.size ≤ g1 from z_0_g1) rfl (Nat.le_of_ble_eq_true rfl)
  have Nb_q4_g : ¬ OB (some ⟨g1, 0, none⟩) g := fun h => by have h := ob_blk.1 h; exact (Ne.symm n_g_g1) h
  have Nb_q4_gm : ¬ OB (some ⟨g1, 0, none⟩) gm := fun h => by have h := ob_blk.1 h; exact (Ne.symm n_gm_g1) h
  have Nb_q4_b : ¬ OB (some ⟨g1, 0, none⟩) b := fun h => by have h := ob_blk.1 h; exact (Ne.symm n_b_g1) h
  have Z_0_q4 : ∀ k, OB (some ⟨g1, 0, none⟩) k → (fun k => k = gm) k ∨ w.heap.size ≤ k := fun k h => by have h := ob_blk.1 h; subst h; exact Or.inr z_0_g1
  refine p_cons (s_appendC (xs := [x]) (ys := [y]) p36_3_3 hE wn_none rfl Try.underlying52 eD3 rfl O_q4 rfl (C_blk (k := .i64) (l := [y]) (off := 0) B_b ⟨rfl, Nat.le_of_ble_eq_true rfl⟩ rfl) (by omega) (by omega) K_0.kept.1 ?_)
  clear hE a; intro Aq45 cq46 w7 O_q4' hk hat a hE
  have Nb_q4_g' := grow_n Nb_q4_g (blk_lt B_g) hat
  have Nb_q4_gm' := grow_n Nb_q4_gm (blk_lt B_gm) hat
  have Nb_q4_b' := grow_n Nb_q4_b (blk_lt B_b) hat
  have Z_0_q4' := grow_z Z_0_q4 K_0.kept.1 hat
  replace B_g := kp_blk B_g hk Nb_q4_g
  replace B_gm := kp_blk B_gm hk Nb_q4_gm
  replace B_b := kp_blk B_b hk Nb_q4_b
  replace K_0 := K_0.then_ hk Z_0_q4
  replace Nb_q4_g := Nb_q4_g'
  replace Nb_q4_gm := Nb_q4_gm'
  replace Nb_q4_b := Nb_q4_b'
  replace Z_0_q4 := Z_0_q4'
  replace O_q4 : w7.ownsRow _ 3 1 (.slice Aq45 2 cq46) 2 (encs (Value.int .i64) ([x] ++ [y])) := O_q4'
  clear O_q4' hk hat
  refine q0 p36_3_4 hE (st_len Try.underlying52 rfl) ?_
  clear hE a; intro a hE
  refine q0 p36_3_5 hE (st_move rfl) ?_
  clear hE a; intro a hE
  refine p_nil ?_
  refine x_norm ?_
  refine wp_block ?_
  refine wp_loop_rounds 3 ?_
  refine (Eq.mpr (rounds_succ (n := 2)) ?_)
  refine c_reg R36_4_l ?_
  refine q0 p36_4_0 hE (st_lss (b := true) rfl rfl (by decide)) ?_
  clear hE a; intro a hE
  refine p_nil ?_
  refine x_norm ?_
  refine wp_seq ?_
  refine c_cond (t := true) hE rfl ?_
  refine wp_skip ?_
  refine x_norm ?_
  refine wp_seq ?_
  refine wp_block ?_
  refine c_reg R36_5_l ?_
  refine q0 p36_5_0 hE (st_indexAddrC (i := 0) Try.underlying52 tS3 (own_told O_q4) rfl rfl (by omega)) ?_
  clear hE a; intro a hE
  refine q0 (v := Value.int .i64 (rd ([x] ++ [y]) (0 : Int))) p36_5_1 hE (st_loadC (i := 0) tA3 (own_told O_q4) (by omega) rfl) ?_
  clear hE a; intro a hE
  refine q0 p36_5_2 hE (st_assign rfl) ?_
  clear hE a; intro a hE
  refine p_nil ?_
  refine x_norm ?_
  refine c_reg R36_6_l ?_
  rw [show rd ([x] ++ [y]) (0 : Int) = x from rfl] at hE
  refine q0 p36_6_0 hE (st_move rfl) ?_
  clear hE a; intro a hE
  refine q0 p36_6_1 hE (st_move rfl) ?_
  clear hE a; intro a hE
  refine p_cons (s_call (xs := [Operand.tmp 24, Operand.tmp 25]) (args := [Value.pointer (some ⟨g, 0, none⟩), Value.int .i64 x]) p36_6_2 hE wn_none rfl rfl Try.func55 cl55 (node_any g (nn : Int) x (Value.map (some gm)) true hN1 _ B_g) ?_)
  rintro e w8 ⟨rfl, hk⟩
  replace B_g := kp_blk B_g hk (fun h => h)
  replace B_gm := kp_blk B_gm hk (fun h => h)
  replace B_b := kp_blk B_b hk (fun h => h)
  replace O_q4 := own_keep O_q4 hk (fun _ _ h => h)
  replace K_0 := K_0.then_ hk (fun _ h => h.elim)
  refine ⟨_, rfl, ?_⟩
  clear hE a; intro a hE
  refine q0 p36_6_3 hE (st_not rfl rfl) ?_
  clear hE a; intro a hE
  refine p_nil ?_
  refine x_norm ?_
  refine c_cond (t := false) hE rfl ?_
  refine wp_skip ?_
  refine x_normB ?_
  refine x_norm ?_
  refine c_regL R36_8_l ?_
  refine q0 p36_8_0 hE (st_add (z := 1) rfl rfl (by decide)) ?_
  clear hE a; intro a hE
  refine q0 p36_8_1 hE (st_move rfl) ?_
  clear hE a; intro a hE
  refine p_nil ?_
  refine x_norm ?_
  refine (Eq.mpr (rounds_succ (n := 1)) ?_)
  refine c_reg R36_4_l ?_
  refine q0 p36_4_0 hE (st_lss (b := true) rfl rfl (by decide)) ?_
  clear hE a; intro a hE
  refine p_nil ?_
  refine x_norm ?_
  refine wp_seq ?_
  refine c_cond (t := true) hE rfl ?_
  refine wp_skip ?_
  refine x_norm ?_
  refine wp_seq ?_
  refine wp_block ?_
  refine c_reg R36_5_l ?_
  refine q0 p36_5_0 hE (st_indexAddrC (i := 1) Try.underlying52 tS3 (own_told O_q4) rfl rfl (by omega)) ?_
  clear hE a; intro a hE
  refine q0 (v := Value.int .i64 (rd ([x] ++ [y]) (1 : Int))) p36_5_1 hE (st_loadC (i := 1) tA3 (own_told O_q4) (by omega) rfl) ?_
  clear hE a; intro a hE
  refine q0 p36_5_2 hE (st_assign rfl) ?_
  clear hE a; intro a hE
  refine p_nil ?_
  refine x_norm ?_
  refine c_reg R36_6_l ?_
  rw [show rd ([x] ++ [y]) (1 : Int) = y from rfl] at hE
  refine q0 p36_6_0 hE (st_move rfl) ?_
  clear hE a; intro a hE
  refine q0 p36_6_1 hE (st_move rfl) ?_
  clear hE a; intro a hE
  refine p_cons (s_call (xs := [Operand.tmp 24, Operand.tmp 25]) (args := [Value.pointer (some ⟨g, 0, none⟩), Value.int .i64 y]) p36_6_2 hE wn_none rfl rfl Try.func55 cl55 (node_any g (nn : Int) y (Value.map (some gm)) true hN2 _ B_g) ?_)
  rintro e w9 ⟨rfl, hk⟩
  replace B_g := kp_blk B_g hk (fun h => h)
  replace B_gm := kp_blk B_gm hk (fun h => h)
  replace B_b := kp_blk B_b hk (fun h => h)
  replace O_q4 := own_keep O_q4 hk (fun _ _ h => h)
  replace K_0 := K_0.then_ hk (fun _ h => h.elim)
  refine ⟨_, rfl, ?_⟩
  clear hE a; intro a hE
  refine q0 p36_6_3 hE (st_not rfl rfl) ?_
  clear hE a; intro a hE
  refine p_nil ?_
  refine x_norm ?_
  refine c_cond (t := false) hE rfl ?_
  refine wp_skip ?_
  refine x_normB ?_
  refine x_norm ?_
  refine c_regL R36_8_l ?_
  refine q0 p36_8_0 hE (st_add (z := 2) rfl rfl (by decide)) ?_
  clear hE a; intro a hE
  refine q0 p36_8_1 hE (st_move rfl) ?_
  clear hE a; intro a hE
  refine p_nil ?_
  refine x_norm ?_
  refine (Eq.mpr (rounds_succ (n := 0)) ?_)
  refine c_reg R36_4_l ?_
  refine q0 p36_4_0 hE (st_lss (b := false) rfl rfl (by decide)) ?_
  clear hE a; intro a hE
  refine p_nil ?_
  refine x_norm ?_
  refine wp_seq ?_
  refine c_cond (t := false) hE rfl ?_
  refine wp_exit ?_
  refine x_exit ?_
  refine x_exit ?_
  refine x_in ?_
  refine x_norm ?_
  refine wp_seq ?_
  refine c_reg R36_9_l ?_
  refine q0 p36_9_0 hE (st_move rfl) ?_
  clear hE a; intro a hE
  refine q0 p36_9_1 hE (st_len Try.underlying52 rfl) ?_
  clear hE a; intro a hE
  refine q0 p36_9_2 hE (st_eql (b := false) rfl rfl (by decide)) ?_
  clear hE a; intro a hE
  refine p_nil ?_
  refine x_norm ?_
  refine c_cond (t := false) hE rfl ?_
  refine wp_skip ?_
  refine x_norm ?_
  refine c_reg R36_11_l ?_
  refine q0 p36_11_0 hE (st_move rfl) ?_
  clear hE a; intro a hE
  refine q0 p36_11_1 hE (st_nil rfl) ?_
  clear hE a; intro a hE
  refine q0 p36_11_2 hE (st_fieldAddr Try.underlying83 rfl tS81 rfl rfl) ?_
  clear hE a; intro a hE
  refine q0 p36_11_3 hE (st_load1 tA81 rfl ((blk_cell B_g 1).trans rfl)) ?_
  clear hE a; intro a hE
  refine q0 p36_11_4 hE (Lm.st_lenP Try.underlying81 rfl B_gm) ?_
  clear hE a; intro a hE
  refine q0 p36_11_5 hE (st_assign rfl) ?_
  clear hE a; intro a hE
  refine p_nil ?_
  refine x_norm ?_
  refine wp_seq ?_
  refine c_reg R36_12_l ?_
  refine q0 p36_12_0 hE (st_move rfl) ?_
  clear hE a; intro a hE
  refine q0 p36_12_1 hE (st_len Try.underlying52 rfl) ?_
  clear hE a; intro a hE
  refine q0 p36_12_2 hE (st_move rfl) ?_
  clear hE a; intro a hE
  refine p_nil ?_
  refine x_norm ?_
  refine wp_block ?_
  refine wp_loop_rounds 2 ?_
  refine (Eq.mpr (rounds_succ (n := 1)) ?_)
  refine c_reg R36_13_l ?_
  refine q0 p36_13_0 hE (st_lss (b := true) rfl rfl (by decide)) ?_
  clear hE a; intro a hE
  refine p_nil ?_
  refine x_norm ?_
  refine wp_seq ?_
  refine c_cond (t := true) hE rfl ?_
  refine wp_skip ?_
  refine x_norm ?_
  refine wp_seq ?_
  refine wp_block ?_
  refine c_reg R36_14_l ?_
  refine q0 p36_14_0 hE (st_indexAddr (i := 0) Try.underlying52 tS3 rfl rfl (by decide) rfl) ?_
  clear hE a; intro a hE
  refine q0 p36_14_1 hE (st_load1 tA3 rfl ((blk_cell B_b 0).trans rfl)) ?_
  clear hE a; intro a hE
  refine q0 p36_14_2 hE (st_assign rfl) ?_
  clear hE a; intro a hE
  refine p_nil ?_
  refine x_norm ?_
  refine c_draw (S := fun W => W.heap[g]? = some (.cells #[Value.int .i64 (nn : Int), Value.map (some gm)] 83 (0, 0)) ∧ True) rfl rfl (listed := #[false, false, false, false, false, false, false, false]) rfl ?_
  intro w10 hh hk
  replace B_g := kp_blk B_g hk (fun h => h)
  replace B_gm := kp_blk B_gm hk (fun h => h)
  replace B_b := kp_blk B_b hk (fun h => h)
  replace O_q4 := own_keep O_q4 hk (fun _ _ h => h)
  replace K_0 := K_0.then_ hk (fun _ h => h.elim)
  clear hh hk
  refine d_take (v := Value.pointer (some ⟨g, 0, none⟩)) p36_15_0 ns36_15 (by kernel_rfl) (by kernel_rfl) (fun _ _ _ h => h) hE wn_none rfl ⟨B_g, trivial⟩ (fun W hS => (st_move rfl)) rfl ?_
  clear hE a; intro a hE
  refine d_take (v := Value.pointer (some ⟨g, 0, none⟩)) p36_15_1 ns36_15 (by kernel_rfl) (by kernel_rfl) (fun _ _ _ h => h) hE wn_none rfl ⟨B_g, trivial⟩ (fun W hS => (st_nil rfl)) rfl ?_
  clear hE a; intro a hE
  refine d_take (v := Value.pointer (some ⟨g, 1, none⟩)) p36_15_2 ns36_15 (by kernel_rfl) (by kernel_rfl) (fun _ _ _ h => h) hE wn_none rfl ⟨B_g, trivial⟩ (fun W hS => (st_fieldAddr Try.underlying83 rfl tS81 rfl rfl)) rfl ?_
  clear hE a; intro a hE
  refine d_take (v := Value.map (some gm)) p36_15_3 ns36_15 (by kernel_rfl) (by kernel_rfl) (fun _ _ _ h => h) hE wn_none rfl ⟨B_g, trivial⟩ (fun W hS => (st_load1 tA81 rfl ((blk_cell hS.1 1).trans rfl))) rfl ?_
  clear hE a; intro a hE
  refine d_take (v := Value.int .i64 x) p36_15_4 ns36_15 (by kernel_rfl) (by kernel_rfl) (fun _ _ _ h => h) hE wn_none rfl ⟨B_g, trivial⟩ (fun W hS => (st_move rfl)) rfl ?_
  clear hE a; intro a hE
  refine d_take (v := Value.int .i64 y) p36_15_5 ns36_15 (by kernel_rfl) (by kernel_rfl) (fun _ _ _ h => h) hE wn_none rfl ⟨B_g, trivial⟩ (fun W hS => (st_move rfl)) rfl ?_
  clear hE a; intro a hE
  refine d_one (by kernel_rfl) rfl (s_call (xs := [Operand.tmp 50, Operand.tmp 51]) (args := [Value.int .i64 x, Value.int .i64 y]) p36_15_6 hE wn_none rfl rfl Try.func54 cl54 (of_any x y _) ?_)
  rintro e w11 ⟨rfl, hk⟩
  replace B_g := kp_blk B_g hk (fun h => h)
  replace B_gm := kp_blk B_gm hk (fun h => h)
  replace B_b := kp_blk B_b hk (fun h => h)
  replace O_q4 := own_keep O_q4 hk (fun _ _ h => h)
  replace K_0 := K_0.then_ hk (fun _ h => h.elim)
  refine ⟨_, rfl, ?_⟩
  clear hE a; intro a hE
  refine ⟨⟨B_g, trivial⟩, ?_⟩
  refine d_one (by kernel_rfl) rfl (Lm.s_delP p36_15_7 hE wn_none Try.underlying81 Try.underlying86 Try.underlying3 tS3 mk86 (by kernel_rfl) rfl rfl hF B_gm ?_)
  intro esm13 w12 MF_m13 hz_m13 B_gm' hk
  replace B_g := kp_blk B_g hk n_g_gm
  replace B_b := kp_blk B_b hk (Ne.symm n_gm_b)
  replace O_q4 := own_keep O_q4 hk (fun k hk2 h2 => Nb_q4_gm (by rw [show k = gm from h2] at hk2; exact hk2))
  replace K_0 := K_0.then_ hk (fun k h => by rw [show k = gm from h]; exact Or.inl rfl)
  replace B_gm := B_gm'
  clear hk
  refine ⟨⟨B_g, trivial⟩, ?_⟩
  refine d_end (by kernel_rfl) ?_
  refine x_normB ?_
  refine x_norm ?_
  refine c_regL R36_16_l ?_
  refine q0 p36_16_0 hE (st_add (z := 1) rfl rfl (by decide)) ?_
  clear hE a; intro a hE
  refine q0 p36_16_1 hE (st_move rfl) ?_
  clear hE a; intro a hE
  refine p_nil ?_
  refine x_norm ?_
  refine (Eq.mpr (rounds_succ (n := 0)) ?_)
  refine c_reg R36_13_l ?_
  refine q0 p36_13_0 hE (st_lss (b := false) rfl rfl (by decide)) ?_
  clear hE a; intro a hE
  refine p_nil ?_
  refine x_norm ?_
  refine wp_seq ?_
  refine c_cond (t := false) hE rfl ?_
  refine wp_exit ?_
  refine x_exit ?_
  refine x_exit ?_
  refine x_in ?_
  refine x_norm ?_
  refine c_reg R36_17_l ?_
  refine q0 p36_17_0 hE (st_move rfl) ?_
  clear hE a; intro a hE
  refine q0 p36_17_1 hE (st_move rfl) ?_
  clear hE a; intro a hE
  refine q0 p36_17_2 hE (st_nil rfl) ?_
  clear hE a; intro a hE
  refine q0 p36_17_3 hE (st_fieldAddr Try.underlying83 rfl tS81 rfl rfl) ?_
  clear hE a; intro a hE
  refine q0 p36_17_4 hE (st_load1 tA81 rfl ((blk_cell B_g 1).trans rfl)) ?_
  clear hE a; intro a hE
  refine q0 p36_17_5 hE (Lm.st_lenP Try.underlying81 rfl B_gm) ?_
  clear hE a; intro a hE
  refine q0 p36_17_6 hE (st_sub (z := (es.size : Int) - (esm13.size : Int)) rfl rfl (wr_i64 _ (by omega) (by omega))) ?_
  clear hE a; intro a hE
  refine q0 p36_17_7 hE (st_assign rfl) ?_
  clear hE a; intro a hE
  refine q0 p36_17_8 hE (st_assign rfl) ?_
  clear hE a; intro a hE
  refine p_nil ?_
  refine x_norm ?_
  refine wp_ret ?_
  refine ret_list (rs := [.tmp 6, .tmp 7]) (vs := [Value.int .i64 ((es.size : Int) - (esm13.size : Int)), Value.int .i64 0]) rfl hE (.tmp rfl (.tmp rfl .nil)) rfl ?_
  exact ⟨esm13, by rw [hz_m13], MF_m13, B_gm, K_0⟩
theorem p36_7_0 : pj (regOf Try.f36 7) 0 = some (some 6, .assign (.const (.int .i64 0)), 3, none) := by kernel_rfl
theorem p36_7_1 : pj (regOf Try.f36 7) 1 = some (some 7, .assign (.const (.int .i64 1)), 23, none) := by kernel_rfl
set_option maxHeartbeats 4000000 in
theorem cut1_no (g gm ck nn : Nat) (es : Array MapEntry) (f : Int → Int → Option Int)  (x y : Int) (b : Nat) (hno : ¬ (nodeB (nn : Int) x = true ∧ nodeB (nn : Int) y = true)) (w : World) (hb9 : w.heap[b]? = some (.cells #[.int .i64 y] 3 (0, 0))) (hgb : g ≠ b) (hg : w.heap[g]? = some (.cells #[.int .i64 (nn : Int), .map (some gm)] 83 (0, 0))) (hm : w.heap[gm]? = some (.map es ck)) (hF : Mp.MapF es f) (hne : g ≠ gm) : Calls Try.prog 36 #[.pointer (some ⟨g, 0, none⟩), .int .i64 x, .slice (some ⟨b, 0, none⟩) 1 1] w fun e w' => e = .returned (.tuple #[.int .i64 0, .int .i64 1]) ∧ Kp w w' (fun _ => False) := by
  have K_0 := Kp.refl w (fun _ => False)
  have B_g := hg
  have B_gm := hm
  have n_g_gm := hne
  have B_b := hb9
  have n_g_b : g ≠ b := hgb
  have n_gm_b : gm ≠ b := fun e => by rw [e] at hm; rw [hm] at hb9; cases hb9
  refine enter (args := [Value.pointer (some ⟨g, 0, none⟩), Value.int .i64 x, Value.slice (some ⟨b, 0, none⟩) 1 1]) (n := 61) Try.func36 body36 rfl rfl rfl ?_
  intro a hE
  refine c_reg R36_0_l ?_
  refine q0 p36_0_0 hE (st_assign rfl) ?_
  clear hE a; intro a hE
  refine q0 p36_0_1 hE (st_assign rfl) ?_
  clear hE a; intro a hE
  refine p_nil ?_
  refine x_norm ?_
  refine wp_seq ?_
  rcases Decidable.em (nodeB (nn : Int) x = true) with hN1 | hN1
  ·
    have hN2 : ¬ nodeB (nn : Int) y = true := fun q => hno ⟨hN1, q⟩
    refine c_reg R36_1_l ?_
    refine q0 p36_1_0 hE (st_move rfl) ?_
    clear hE a; intro a hE
    refine q0 p36_1_1 hE (st_eqlP (b := false) tP56 rfl rfl rfl) ?_
    clear hE a; intro a hE
    refine p_nil ?_
    refine x_norm ?_
    refine c_cond (t := false) hE rfl ?_
    refine wp_skip ?_
    refine x_norm ?_
    refine wp_seq ?_
    refine c_reg R36_3_l ?_
    refine q0 p36_3_0 hE (st_move rfl) ?_
    clear hE a; intro a hE
    refine p_cons (s_row (xs := [(0, Operand.tmp 15)]) (vs := [(0, Value.int .i64 x)]) (cs := #[Value.int .i64 x]) p36_3_1 hE wn_none rfl Try.underlying52 rfl (by kernel_rfl) ?_)
    clear hE a; intro g1 w2 z3 B_g1 hk a hE
    have n_g_g1 : g ≠ g1 := ne_new B_g z3
    have n_gm_g1 : gm ≠ g1 := ne_new B_gm z3
    have n_b_g1 : b ≠ g1 := ne_new B_b z3
    have z_0_g1 := Nat.le_trans K_0.kept.1 z3
    replace B_g := kp_blk B_g hk (fun h => h)
    replace B_gm := kp_blk B_gm hk (fun h => h)
    replace B_b := kp_blk B_b hk (fun h => h)
    replace K_0 := K_0.then_ hk (fun _ h => h.elim)
    clear hk
    refine q0 p36_3_2 hE (st_move rfl) ?_
    clear hE a; intro a hE
    have O_q4 := own_blk9 (k := .i64) (l := [x]) B_g1 (show w.heap.size ≤ g1 from z_0_g1) rfl (Nat.le_of_ble_eq_true rfl)
    have Nb_q4_g : ¬ OB (some ⟨g1, 0, none⟩) g := fun h => by have h := ob_blk.1 h; exact (Ne.symm n_g_g1) h
    have Nb_q4_gm : ¬ OB (some ⟨g1, 0, none⟩) gm := fun h => by have h := ob_blk.1 h; exact (Ne.symm n_gm_g1) h
    have Nb_q4_b : ¬ OB (some ⟨g1, 0, none⟩) b := fun h => by have h := ob_blk.1 h; exact (Ne.symm n_b_g1) h
    have Z_0_q4 : ∀ k, OB (some ⟨g1, 0, none⟩) k → (fun _ => False) k ∨ w.heap.size ≤ k := fun k h => by have h := ob_blk.1 h; subst h; exact Or.inr z_0_g1
    refine p_cons (s_appendC (xs := [x]) (ys := [y]) p36_3_3 hE wn_none rfl Try.underlying52 eD3 rfl O_q4 rfl (C_blk (k := .i64) (l := [y]) (off := 0) B_b ⟨rfl, Nat.le_of_ble_eq_true rfl⟩ rfl) (by omega) (by omega) K_0.kept.1 ?_)
    clear hE a; intro Aq45 cq46 w7 O_q4' hk hat a hE
    have Nb_q4_g' := grow_n Nb_q4_g (blk_lt B_g) hat
    have Nb_q4_gm' := grow_n Nb_q4_gm (blk_lt B_gm) hat
    have Nb_q4_b' := grow_n Nb_q4_b (blk_lt B_b) hat
    have Z_0_q4' := grow_z Z_0_q4 K_0.kept.1 hat
    replace B_g := kp_blk B_g hk Nb_q4_g
    replace B_gm := kp_blk B_gm hk Nb_q4_gm
    replace B_b := kp_blk B_b hk Nb_q4_b
    replace K_0 := K_0.then_ hk Z_0_q4
    replace Nb_q4_g := Nb_q4_g'
    replace Nb_q4_gm := Nb_q4_gm'
    replace Nb_q4_b := Nb_q4_b'
    replace Z_0_q4 := Z_0_q4'
    replace O_q4 : w7.ownsRow _ 3 1 (.slice Aq45 2 cq46) 2 (encs (Value.int .i64) ([x] ++ [y])) := O_q4'
    clear O_q4' hk hat
    refine q0 p36_3_4 hE (st_len Try.underlying52 rfl) ?_
    clear hE a; intro a hE
    refine q0 p36_3_5 hE (st_move rfl) ?_
    clear hE a; intro a hE
    refine p_nil ?_
    refine x_norm ?_
    refine wp_block ?_
    refine wp_loop_rounds 3 ?_
    refine (Eq.mpr (rounds_succ (n := 2)) ?_)
    refine c_reg R36_4_l ?_
    refine q0 p36_4_0 hE (st_lss (b := true) rfl rfl (by decide)) ?_
    clear hE a; intro a hE
    refine p_nil ?_
    refine x_norm ?_
    refine wp_seq ?_
    refine c_cond (t := true) hE rfl ?_
    refine wp_skip ?_
    refine x_norm ?_
    refine wp_seq ?_
    refine wp_block ?_
    refine c_reg R36_5_l ?_
    refine q0 p36_5_0 hE (st_indexAddrC (i := 0) Try.underlying52 tS3 (own_told O_q4) rfl rfl (by omega)) ?_
    clear hE a; intro a hE
    refine q0 (v := Value.int .i64 (rd ([x] ++ [y]) (0 : Int))) p36_5_1 hE (st_loadC (i := 0) tA3 (own_told O_q4) (by omega) rfl) ?_
    clear hE a; intro a hE
    refine q0 p36_5_2 hE (st_assign rfl) ?_
    clear hE a; intro a hE
    refine p_nil ?_
    refine x_norm ?_
    refine c_reg R36_6_l ?_
    rw [show rd ([x] ++ [y]) (0 : Int) = x from rfl] at hE
    refine q0 p36_6_0 hE (st_move rfl) ?_
    clear hE a; intro a hE
    refine q0 p36_6_1 hE (st_move rfl) ?_
    clear hE a; intro a hE
    refine p_cons (s_call (xs := [Operand.tmp 24, Operand.tmp 25]) (args := [Value.pointer (some ⟨g, 0, none⟩), Value.int .i64 x]) p36_6_2 hE wn_none rfl rfl Try.func55 cl55 (node_any g (nn : Int) x (Value.map (some gm)) true hN1 _ B_g) ?_)
    rintro e w8 ⟨rfl, hk⟩
    replace B_g := kp_blk B_g hk (fun h => h)
    replace B_gm := kp_blk B_gm hk (fun h => h)
    replace B_b := kp_blk B_b hk (fun h => h)
    replace O_q4 := own_keep O_q4 hk (fun _ _ h => h)
    replace K_0 := K_0.then_ hk (fun _ h => h.elim)
    refine ⟨_, rfl, ?_⟩
    clear hE a; intro a hE
    refine q0 p36_6_3 hE (st_not rfl rfl) ?_
    clear hE a; intro a hE
    refine p_nil ?_
    refine x_norm ?_
    refine c_cond (t := false) hE rfl ?_
    refine wp_skip ?_
    refine x_normB ?_
    refine x_norm ?_
    refine c_regL R36_8_l ?_
    refine q0 p36_8_0 hE (st_add (z := 1) rfl rfl (by decide)) ?_
    clear hE a; intro a hE
    refine q0 p36_8_1 hE (st_move rfl) ?_
    clear hE a; intro a hE
    refine p_nil ?_
    refine x_norm ?_
    refine (Eq.mpr (rounds_succ (n := 1)) ?_)
    refine c_reg R36_4_l ?_
    refine q0 p36_4_0 hE (st_lss (b := true) rfl rfl (by decide)) ?_
    clear hE a; intro a hE
    refine p_nil ?_
    refine x_norm ?_
    refine wp_seq ?_
    refine c_cond (t := true) hE rfl ?_
    refine wp_skip ?_
    refine x_norm ?_
    refine wp_seq ?_
    refine wp_block ?_
    refine c_reg R36_5_l ?_
    refine q0 p36_5_0 hE (st_indexAddrC (i := 1) Try.underlying52 tS3 (own_told O_q4) rfl rfl (by omega)) ?_
    clear hE a; intro a hE
    refine q0 (v := Value.int .i64 (rd ([x] ++ [y]) (1 : Int))) p36_5_1 hE (st_loadC (i := 1) tA3 (own_told O_q4) (by omega) rfl) ?_
    clear hE a; intro a hE
    refine q0 p36_5_2 hE (st_assign rfl) ?_
    clear hE a; intro a hE
    refine p_nil ?_
    refine x_norm ?_
    refine c_reg R36_6_l ?_
    rw [show rd ([x] ++ [y]) (1 : Int) = y from rfl] at hE
    refine q0 p36_6_0 hE (st_move rfl) ?_
    clear hE a; intro a hE
    refine q0 p36_6_1 hE (st_move rfl) ?_
    clear hE a; intro a hE
    refine p_cons (s_call (xs := [Operand.tmp 24, Operand.tmp 25]) (args := [Value.pointer (some ⟨g, 0, none⟩), Value.int .i64 y]) p36_6_2 hE wn_none rfl rfl Try.func55 cl55 (node_any g (nn : Int) y (Value.map (some gm)) false (by simpa using hN2) _ B_g) ?_)
    rintro e w9 ⟨rfl, hk⟩
    replace B_g := kp_blk B_g hk (fun h => h)
    replace B_gm := kp_blk B_gm hk (fun h => h)
    replace B_b := kp_blk B_b hk (fun h => h)
    replace O_q4 := own_keep O_q4 hk (fun _ _ h => h)
    replace K_0 := K_0.then_ hk (fun _ h => h.elim)
    refine ⟨_, rfl, ?_⟩
    clear hE a; intro a hE
    refine q0 p36_6_3 hE (st_not rfl rfl) ?_
    clear hE a; intro a hE
    refine p_nil ?_
    refine x_norm ?_
    refine c_cond (t := true) hE rfl ?_
    refine c_reg R36_7_l ?_
    refine q0 p36_7_0 hE (st_assign rfl) ?_
    clear hE a; intro a hE
    refine q0 p36_7_1 hE (st_assign rfl) ?_
    clear hE a; intro a hE
    refine p_nil ?_
    refine x_norm ?_
    refine wp_ret ?_
    refine x_retB ?_
    refine x_ret ?_
    refine x_ret ?_
    refine x_retB ?_
    refine x_ret ?_
    refine ret_list (rs := [.tmp 6, .tmp 7]) (vs := [Value.int .i64 0, Value.int .i64 1]) rfl hE (.tmp rfl (.tmp rfl .nil)) rfl ?_
    exact ⟨rfl, K_0⟩
  ·
    refine c_reg R36_1_l ?_
    refine q0 p36_1_0 hE (st_move rfl) ?_
    clear hE a; intro a hE
    refine q0 p36_1_1 hE (st_eqlP (b := false) tP56 rfl rfl rfl) ?_
    clear hE a; intro a hE
    refine p_nil ?_
    refine x_norm ?_
    refine c_cond (t := false) hE rfl ?_
    refine wp_skip ?_
    refine x_norm ?_
    refine wp_seq ?_
    refine c_reg R36_3_l ?_
    refine q0 p36_3_0 hE (st_move rfl) ?_
    clear hE a; intro a hE
    refine p_cons (s_row (xs := [(0, Operand.tmp 15)]) (vs := [(0, Value.int .i64 x)]) (cs := #[Value.int .i64 x]) p36_3_1 hE wn_none rfl Try.underlying52 rfl (by kernel_rfl) ?_)
    clear hE a; intro g10 w11 z12 B_g10 hk a hE
    have n_g_g10 : g ≠ g10 := ne_new B_g z12
    have n_gm_g10 : gm ≠ g10 := ne_new B_gm z12
    have n_b_g10 : b ≠ g10 := ne_new B_b z12
    have z_0_g10 := Nat.le_trans K_0.kept.1 z12
    replace B_g := kp_blk B_g hk (fun h => h)
    replace B_gm := kp_blk B_gm hk (fun h => h)
    replace B_b := kp_blk B_b hk (fun h => h)
    replace K_0 := K_0.then_ hk (fun _ h => h.elim)
    clear hk
    refine q0 p36_3_2 hE (st_move rfl) ?_
    clear hE a; intro a hE
    have O_q13 := own_blk9 (k := .i64) (l := [x]) B_g10 (show w.heap.size ≤ g10 from z_0_g10) rfl (Nat.le_of_ble_eq_true rfl)
    have Nb_q13_g : ¬ OB (some ⟨g10, 0, none⟩) g := fun h => by have h := ob_blk.1 h; exact (Ne.symm n_g_g10) h
    have Nb_q13_gm : ¬ OB (some ⟨g10, 0, none⟩) gm := fun h => by have h := ob_blk.1 h; exact (Ne.symm n_gm_g10) h
    have Nb_q13_b : ¬ OB (some ⟨g10, 0, none⟩) b := fun h => by have h := ob_blk.1 h; exact (Ne.symm n_b_g10) h
    have Z_0_q13 : ∀ k, OB (some ⟨g10, 0, none⟩) k → (fun _ => False) k ∨ w.heap.size ≤ k := fun k h => by have h := ob_blk.1 h; subst h; exact Or.inr z_0_g10
    refine p_cons (s_appendC (xs := [x]) (ys := [y]) p36_3_3 hE wn_none rfl Try.underlying52 eD3 rfl O_q13 rfl (C_blk (k := .i64) (l := [y]) (off := 0) B_b ⟨rfl, Nat.le_of_ble_eq_true rfl⟩ rfl) (by omega) (by omega) K_0.kept.1 ?_)
    clear hE a; intro Aq1314 cq1315 w16 O_q13' hk hat a hE
    have Nb_q13_g' := grow_n Nb_q13_g (blk_lt B_g) hat
    have Nb_q13_gm' := grow_n Nb_q13_gm (blk_lt B_gm) hat
    have Nb_q13_b' := grow_n Nb_q13_b (blk_lt B_b) hat
    have Z_0_q13' := grow_z Z_0_q13 K_0.kept.1 hat
    replace B_g := kp_blk B_g hk Nb_q13_g
    replace B_gm := kp_blk B_gm hk Nb_q13_gm
    replace B_b := kp_blk B_b hk Nb_q13_b
    replace K_0 := K_0.then_ hk Z_0_q13
    replace Nb_q13_g := Nb_q13_g'
    replace Nb_q13_gm := Nb_q13_gm'
    replace Nb_q13_b := Nb_q13_b'
    replace Z_0_q13 := Z_0_q13'
    replace O_q13 : w16.ownsRow _ 3 1 (.slice Aq1314 2 cq1315) 2 (encs (Value.int .i64) ([x] ++ [y])) := O_q13'
    clear O_q13' hk hat
    refine q0 p36_3_4 hE (st_len Try.underlying52 rfl) ?_
    clear hE a; intro a hE
    refine q0 p36_3_5 hE (st_move rfl) ?_
    clear hE a; intro a hE
    refine p_nil ?_
    refine x_norm ?_
    refine wp_block ?_
    refine wp_loop_rounds 3 ?_
    refine (Eq.mpr (rounds_succ (n := 2)) ?_)
    refine c_reg R36_4_l ?_
    refine q0 p36_4_0 hE (st_lss (b := true) rfl rfl (by decide)) ?_
    clear hE a; intro a hE
    refine p_nil ?_
    refine x_norm ?_
    refine wp_seq ?_
    refine c_cond (t := true) hE rfl ?_
    refine wp_skip ?_
    refine x_norm ?_
    refine wp_seq ?_
    refine wp_block ?_
    refine c_reg R36_5_l ?_
    refine q0 p36_5_0 hE (st_indexAddrC (i := 0) Try.underlying52 tS3 (own_told O_q13) rfl rfl (by omega)) ?_
    clear hE a; intro a hE
    refine q0 (v := Value.int .i64 (rd ([x] ++ [y]) (0 : Int))) p36_5_1 hE (st_loadC (i := 0) tA3 (own_told O_q13) (by omega) rfl) ?_
    clear hE a; intro a hE
    refine q0 p36_5_2 hE (st_assign rfl) ?_
    clear hE a; intro a hE
    refine p_nil ?_
    refine x_norm ?_
    refine c_reg R36_6_l ?_
    rw [show rd ([x] ++ [y]) (0 : Int) = x from rfl] at hE
    refine q0 p36_6_0 hE (st_move rfl) ?_
    clear hE a; intro a hE
    refine q0 p36_6_1 hE (st_move rfl) ?_
    clear hE a; intro a hE
    refine p_cons (s_call (xs := [Operand.tmp 24, Operand.tmp 25]) (args := [Value.pointer (some ⟨g, 0, none⟩), Value.int .i64 x]) p36_6_2 hE wn_none rfl rfl Try.func55 cl55 (node_any g (nn : Int) x (Value.map (some gm)) false (by simpa using hN1) _ B_g) ?_)
    rintro e w17 ⟨rfl, hk⟩
    replace B_g := kp_blk B_g hk (fun h => h)
    replace B_gm := kp_blk B_gm hk (fun h => h)
    replace B_b := kp_blk B_b hk (fun h => h)
    replace O_q13 := own_keep O_q13 hk (fun _ _ h => h)
    replace K_0 := K_0.then_ hk (fun _ h => h.elim)
    refine ⟨_, rfl, ?_⟩
    clear hE a; intro a hE
    refine q0 p36_6_3 hE (st_not rfl rfl) ?_
    clear hE a; intro a hE
    refine p_nil ?_
    refine x_norm ?_
    refine c_cond (t := true) hE rfl ?_
    refine c_reg R36_7_l ?_
    refine q0 p36_7_0 hE (st_assign rfl) ?_
    clear hE a; intro a hE
    refine q0 p36_7_1 hE (st_assign rfl) ?_
    clear hE a; intro a hE
    refine p_nil ?_
    refine x_norm ?_
    refine wp_ret ?_
    refine x_retB ?_
    refine x_ret ?_
    refine x_ret ?_
    refine x_retB ?_
    refine x_ret ?_
    refine ret_list (rs := [.tmp 6, .tmp 7]) (vs := [Value.int .i64 0, Value.int .i64 1]) rfl hE (.tmp rfl (.tmp rfl .nil)) rfl ?_
    exact ⟨rfl, K_0⟩

set_option maxHeartbeats 4000000 in
theorem cut0_no (g gm ck nn : Nat) (es : Array MapEntry) (f : Int → Int → Option Int)  (x : Int) (hN1 : ¬ nodeB (nn : Int) x = true) (w : World) (hg : w.heap[g]? = some (.cells #[.int .i64 (nn : Int), .map (some gm)] 83 (0, 0))) (hm : w.heap[gm]? = some (.map es ck)) (hF : Mp.MapF es f) (hne : g ≠ gm) : Calls Try.prog 36 #[.pointer (some ⟨g, 0, none⟩), .int .i64 x, .slice none 0 0] w fun e w' => e = .returned (.tuple #[.int .i64 0, .int .i64 1]) ∧ Kp w w' (fun _ => False) := by
  have K_0 := Kp.refl w (fun _ => False)
  have B_g := hg
  have B_gm := hm
  have n_g_gm := hne
  refine enter (args := [Value.pointer (some ⟨g, 0, none⟩), Value.int .i64 x, Value.slice none 0 0]) (n := 61) Try.func36 body36 rfl rfl rfl ?_
  intro a hE
  refine c_reg R36_0_l ?_
  refine q0 p36_0_0 hE (st_assign rfl) ?_
  clear hE a; intro a hE
  refine q0 p36_0_1 hE (st_assign rfl) ?_
  clear hE a; intro a hE
  refine p_nil ?_
  refine x_norm ?_
  refine wp_seq ?_
  refine c_reg R36_1_l ?_
  refine q0 p36_1_0 hE (st_move rfl) ?_
  clear hE a; intro a hE
  refine q0 p36_1_1 hE (st_eqlP (b := false) tP56 rfl rfl rfl) ?_
  clear hE a; intro a hE
  refine p_nil ?_
  refine x_norm ?_
  refine c_cond (t := false) hE rfl ?_
  refine wp_skip ?_
  refine x_norm ?_
  refine wp_seq ?_
  refine c_reg R36_3_l ?_
  refine q0 p36_3_0 hE (st_move rfl) ?_
  clear hE a; intro a hE
  refine p_cons (s_row (xs := [(0, Operand.tmp 15)]) (vs := [(0, Value.int .i64 x)]) (cs := #[Value.int .i64 x]) p36_3_1 hE wn_none rfl Try.underlying52 rfl (by kernel_rfl) ?_)
  clear hE a; intro g1 w2 z3 B_g1 hk a hE
  have n_g_g1 : g ≠ g1 := ne_new B_g z3
  have n_gm_g1 : gm ≠ g1 := ne_new B_gm z3
  have z_0_g1 := Nat.le_trans K_0.kept.1 z3
  replace B_g := kp_blk B_g hk (fun h => h)
  replace B_gm := kp_blk B_gm hk (fun h => h)
  replace K_0 := K_0.then_ hk (fun _ h => h.elim)
  clear hk
  refine q0 p36_3_2 hE (st_move rfl) ?_
  clear hE a; intro a hE
  have O_q4 := own_blk9 (k := .i64) (l := [x]) B_g1 (show w.heap.size ≤ g1 from z_0_g1) rfl (Nat.le_of_ble_eq_true rfl)
  have Nb_q4_g : ¬ OB (some ⟨g1, 0, none⟩) g := fun h => by have h := ob_blk.1 h; exact (Ne.symm n_g_g1) h
  have Nb_q4_gm : ¬ OB (some ⟨g1, 0, none⟩) gm := fun h => by have h := ob_blk.1 h; exact (Ne.symm n_gm_g1) h
  have Z_0_q4 : ∀ k, OB (some ⟨g1, 0, none⟩) k → (fun _ => False) k ∨ w.heap.size ≤ k := fun k h => by have h := ob_blk.1 h; subst h; exact Or.inr z_0_g1
  refine p_cons (s_appendC (xs := [x]) (ys := []) p36_3_3 hE wn_none rfl Try.underlying52 eD3 rfl O_q4 rfl (Kd.C_nil _ _) (by omega) (by omega) K_0.kept.1 ?_)
  clear hE a; intro Aq45 cq46 w7 O_q4' hk hat a hE
  have Nb_q4_g' := grow_n Nb_q4_g (blk_lt B_g) hat
  have Nb_q4_gm' := grow_n Nb_q4_gm (blk_lt B_gm) hat
  have Z_0_q4' := grow_z Z_0_q4 K_0.kept.1 hat
  replace B_g := kp_blk B_g hk Nb_q4_g
  replace B_gm := kp_blk B_gm hk Nb_q4_gm
  replace K_0 := K_0.then_ hk Z_0_q4
  replace Nb_q4_g := Nb_q4_g'
  replace Nb_q4_gm := Nb_q4_gm'
  replace Z_0_q4 := Z_0_q4'
  replace O_q4 : w7.ownsRow _ 3 1 (.slice Aq45 1 cq46) 1 (encs (Value.int .i64) [x]) := O_q4'
  clear O_q4' hk hat
  refine q0 p36_3_4 hE (st_len Try.underlying52 rfl) ?_
  clear hE a; intro a hE
  refine q0 p36_3_5 hE (st_move rfl) ?_
  clear hE a; intro a hE
  refine p_nil ?_
  refine x_norm ?_
  refine wp_block ?_
  refine wp_loop_rounds 2 ?_
  refine (Eq.mpr (rounds_succ (n := 1)) ?_)
  refine c_reg R36_4_l ?_
  refine q0 p36_4_0 hE (st_lss (b := true) rfl rfl (by decide)) ?_
  clear hE a; intro a hE
  refine p_nil ?_
  refine x_norm ?_
  refine wp_seq ?_
  refine c_cond (t := true) hE rfl ?_
  refine wp_skip ?_
  refine x_norm ?_
  refine wp_seq ?_
  refine wp_block ?_
  refine c_reg R36_5_l ?_
  refine q0 p36_5_0 hE (st_indexAddrC (i := 0) Try.underlying52 tS3 (own_told O_q4) rfl rfl (by omega)) ?_
  clear hE a; intro a hE
  refine q0 (v := Value.int .i64 (rd ([x]) (0 : Int))) p36_5_1 hE (st_loadC (i := 0) tA3 (own_told O_q4) (by omega) rfl) ?_
  clear hE a; intro a hE
  refine q0 p36_5_2 hE (st_assign rfl) ?_
  clear hE a; intro a hE
  refine p_nil ?_
  refine x_norm ?_
  refine c_reg R36_6_l ?_
  rw [show rd ([x]) (0 : Int) = x from rfl] at hE
  refine q0 p36_6_0 hE (st_move rfl) ?_
  clear hE a; intro a hE
  refine q0 p36_6_1 hE (st_move rfl) ?_
  clear hE a; intro a hE
  refine p_cons (s_call (xs := [Operand.tmp 24, Operand.tmp 25]) (args := [Value.pointer (some ⟨g, 0, none⟩), Value.int .i64 x]) p36_6_2 hE wn_none rfl rfl Try.func55 cl55 (node_any g (nn : Int) x (Value.map (some gm)) false (by simpa using hN1) _ B_g) ?_)
  rintro e w8 ⟨rfl, hk⟩
  replace B_g := kp_blk B_g hk (fun h => h)
  replace B_gm := kp_blk B_gm hk (fun h => h)
  replace O_q4 := own_keep O_q4 hk (fun _ _ h => h)
  replace K_0 := K_0.then_ hk (fun _ h => h.elim)
  refine ⟨_, rfl, ?_⟩
  clear hE a; intro a hE
  refine q0 p36_6_3 hE (st_not rfl rfl) ?_
  clear hE a; intro a hE
  refine p_nil ?_
  refine x_norm ?_
  refine c_cond (t := true) hE rfl ?_
  refine c_reg R36_7_l ?_
  refine q0 p36_7_0 hE (st_assign rfl) ?_
  clear hE a; intro a hE
  refine q0 p36_7_1 hE (st_assign rfl) ?_
  clear hE a; intro a hE
  refine p_nil ?_
  refine x_norm ?_
  refine wp_ret ?_
  refine x_retB ?_
  refine x_ret ?_
  refine x_ret ?_
  refine x_retB ?_
  refine x_ret ?_
  refine ret_list (rs := [.tmp 6, .tmp 7]) (vs := [Value.int .i64 0, Value.int .i64 1]) rfl hE (.tmp rfl (.tmp rfl .nil)) rfl ?_
  exact ⟨rfl, K_0⟩
theorem p36_10_0 : pj (regOf Try.f36 10) 0 = some (some 32, .move (.tmp 0), 56, none) := by kernel_rfl
theorem p36_10_1 : pj (regOf Try.f36 10) 1 = some (some 33, .move (.tmp 1), 3, none) := by kernel_rfl
theorem p36_10_2 : pj (regOf Try.f36 10) 2 = some (some 34, .call { callee := .value (.func 31), args := #[.tmp 32, .tmp 33], argTypes := #[56, 3] }, 52, none) := by kernel_rfl
theorem cl31 : callable Try.f31 = true := by kernel_rfl
theorem p36_10_3 : pj (regOf Try.f36 10) 3 = some (some 2, .assign (.tmp 34), 52, none) := by kernel_rfl
set_option maxHeartbeats 4000000 in
theorem cut0_ok (g gm ck nn : Nat) (es : Array MapEntry) (f : Int → Int → Option Int)  (x : Int) (hnn : nn ≤ 64) (hn1 : nodeB (nn : Int) x = true) (w : World) (hg : w.heap[g]? = some (.cells #[.int .i64 (nn : Int), .map (some gm)] 83 (0, 0))) (hm : w.heap[gm]? = some (.map es ck)) (hF : Mp.MapF es f) (hne : g ≠ gm) : Calls Try.prog 36 #[.pointer (some ⟨g, 0, none⟩), .int .i64 x, .slice none 0 0] w fun e w' => ∃ es', e = .returned (.tuple #[.int .i64 ((nbs (nn : Int) f x nn).length : Int), .int .i64 0]) ∧ Mp.MapF es' (delR f x (nbs (nn : Int) f x nn)) ∧ w'.heap[gm]? = some (.map es' ck) ∧ Kp w w' (fun k => k = gm) := by
  have K_0 := Kp.refl w (fun k => k = gm)
  have B_g := hg
  have B_gm := hm
  have n_g_gm := hne
  refine enter (args := [Value.pointer (some ⟨g, 0, none⟩), Value.int .i64 x, Value.slice none 0 0]) (n := 61) Try.func36 body36 rfl rfl rfl ?_
  intro a hE
  refine c_reg R36_0_l ?_
  refine q0 p36_0_0 hE (st_assign rfl) ?_
  clear hE a; intro a hE
  refine q0 p36_0_1 hE (st_assign rfl) ?_
  clear hE a; intro a hE
  refine p_nil ?_
  refine x_norm ?_
  refine wp_seq ?_
  have hN1 := hn1
  refine c_reg R36_1_l ?_
  refine q0 p36_1_0 hE (st_move rfl) ?_
  clear hE a; intro a hE
  refine q0 p36_1_1 hE (st_eqlP (b := false) tP56 rfl rfl rfl) ?_
  clear hE a; intro a hE
  refine p_nil ?_
  refine x_norm ?_
  refine c_cond (t := false) hE rfl ?_
  refine wp_skip ?_
  refine x_norm ?_
  refine wp_seq ?_
  refine c_reg R36_3_l ?_
  refine q0 p36_3_0 hE (st_move rfl) ?_
  clear hE a; intro a hE
  refine p_cons (s_row (xs := [(0, Operand.tmp 15)]) (vs := [(0, Value.int .i64 x)]) (cs := #[Value.int .i64 x]) p36_3_1 hE wn_none rfl Try.underlying52 rfl (by kernel_rfl) ?_)
  clear hE a; intro g1 w2 z3 B_g1 hk a hE
  have n_g_g1 : g ≠ g1 := ne_new B_g z3
  have n_gm_g1 : gm ≠ g1 := ne_new B_gm z3
  have z_0_g1 := Nat.le_trans K_0.kept.1 z3
  replace B_g := kp_blk B_g hk (fun h => h)
  replace B_gm := kp_blk B_gm hk (fun h => h)
  replace K_0 := K_0.then_ hk (fun _ h => h.elim)
  clear hk
  refine q0 p36_3_2 hE (st_move rfl) ?_
  clear hE a; intro a hE
  have O_q4 := own_blk9 (k := .i64) (l := [x]) B_g1 (show w.heap.size ≤ g1 from z_0_g1) rfl (Nat.le_of_ble_eq_true rfl)
  have Nb_q4_g : ¬ OB (some ⟨g1, 0, none⟩) g := fun h => by have h := ob_blk.1 h; exact (Ne.symm n_g_g1) h
  have Nb_q4_gm : ¬ OB (some ⟨g1, 0, none⟩) gm := fun h => by have h := ob_blk.1 h; exact (Ne.symm n_gm_g1) h
  have Z_0_q4 : ∀ k, OB (some ⟨g1, 0, none⟩) k → (fun k => k = gm) k ∨ w.heap.size ≤ k := fun k h => by have h := ob_blk.1 h; subst h; exact Or.inr z_0_g1
  refine p_cons (s_appendC (xs := [x]) (ys := []) p36_3_3 hE wn_none rfl Try.underlying52 eD3 rfl O_q4 rfl (Kd.C_nil _ _) (by omega) (by omega) K_0.kept.1 ?_)
  clear hE a; intro Aq45 cq46 w7 O_q4' hk hat a hE
  have Nb_q4_g' := grow_n Nb_q4_g (blk_lt B_g) hat
  have Nb_q4_gm' := grow_n Nb_q4_gm (blk_lt B_gm) hat
  have Z_0_q4' := grow_z Z_0_q4 K_0.kept.1 hat
  replace B_g := kp_blk B_g hk Nb_q4_g
  replace B_gm := kp_blk B_gm hk Nb_q4_gm
  replace K_0 := K_0.then_ hk Z_0_q4
  replace Nb_q4_g := Nb_q4_g'
  replace Nb_q4_gm := Nb_q4_gm'
  replace Z_0_q4 := Z_0_q4'
  replace O_q4 : w7.ownsRow _ 3 1 (.slice Aq45 1 cq46) 1 (encs (Value.int .i64) [x]) := O_q4'
  clear O_q4' hk hat
  refine q0 p36_3_4 hE (st_len Try.underlying52 rfl) ?_
  clear hE a; intro a hE
  refine q0 p36_3_5 hE (st_move rfl) ?_
  clear hE a; intro a hE
  refine p_nil ?_
  refine x_norm ?_
  refine wp_block ?_
  refine wp_loop_rounds 2 ?_
  refine (Eq.mpr (rounds_succ (n := 1)) ?_)
  refine c_reg R36_4_l ?_
  refine q0 p36_4_0 hE (st_lss (b := true) rfl rfl (by decide)) ?_
  clear hE a; intro a hE
  refine p_nil ?_
  refine x_norm ?_
  refine wp_seq ?_
  refine c_cond (t := true) hE rfl ?_
  refine wp_skip ?_
  refine x_norm ?_
  refine wp_seq ?_
  refine wp_block ?_
  refine c_reg R36_5_l ?_
  refine q0 p36_5_0 hE (st_indexAddrC (i := 0) Try.underlying52 tS3 (own_told O_q4) rfl rfl (by omega)) ?_
  clear hE a; intro a hE
  refine q0 (v := Value.int .i64 (rd ([x]) (0 : Int))) p36_5_1 hE (st_loadC (i := 0) tA3 (own_told O_q4) (by omega) rfl) ?_
  clear hE a; intro a hE
  refine q0 p36_5_2 hE (st_assign rfl) ?_
  clear hE a; intro a hE
  refine p_nil ?_
  refine x_norm ?_
  refine c_reg R36_6_l ?_
  rw [show rd ([x]) (0 : Int) = x from rfl] at hE
  refine q0 p36_6_0 hE (st_move rfl) ?_
  clear hE a; intro a hE
  refine q0 p36_6_1 hE (st_move rfl) ?_
  clear hE a; intro a hE
  refine p_cons (s_call (xs := [Operand.tmp 24, Operand.tmp 25]) (args := [Value.pointer (some ⟨g, 0, none⟩), Value.int .i64 x]) p36_6_2 hE wn_none rfl rfl Try.func55 cl55 (node_any g (nn : Int) x (Value.map (some gm)) true hN1 _ B_g) ?_)
  rintro e w8 ⟨rfl, hk⟩
  replace B_g := kp_blk B_g hk (fun h => h)
  replace B_gm := kp_blk B_gm hk (fun h => h)
  replace O_q4 := own_keep O_q4 hk (fun _ _ h => h)
  replace K_0 := K_0.then_ hk (fun _ h => h.elim)
  refine ⟨_, rfl, ?_⟩
  clear hE a; intro a hE
  refine q0 p36_6_3 hE (st_not rfl rfl) ?_
  clear hE a; intro a hE
  refine p_nil ?_
  refine x_norm ?_
  refine c_cond (t := false) hE rfl ?_
  refine wp_skip ?_
  refine x_normB ?_
  refine x_norm ?_
  refine c_regL R36_8_l ?_
  refine q0 p36_8_0 hE (st_add (z := 1) rfl rfl (by decide)) ?_
  clear hE a; intro a hE
  refine q0 p36_8_1 hE (st_move rfl) ?_
  clear hE a; intro a hE
  refine p_nil ?_
  refine x_norm ?_
  refine (Eq.mpr (rounds_succ (n := 0)) ?_)
  refine c_reg R36_4_l ?_
  refine q0 p36_4_0 hE (st_lss (b := false) rfl rfl (by decide)) ?_
  clear hE a; intro a hE
  refine p_nil ?_
  refine x_norm ?_
  refine wp_seq ?_
  refine c_cond (t := false) hE rfl ?_
  refine wp_exit ?_
  refine x_exit ?_
  refine x_exit ?_
  refine x_in ?_
  refine x_norm ?_
  refine wp_seq ?_
  refine c_reg R36_9_l ?_
  refine q0 p36_9_0 hE (st_move rfl) ?_
  clear hE a; intro a hE
  refine q0 p36_9_1 hE (st_len Try.underlying52 rfl) ?_
  clear hE a; intro a hE
  refine q0 p36_9_2 hE (st_eql (b := true) rfl rfl (by decide)) ?_
  clear hE a; intro a hE
  refine p_nil ?_
  refine x_norm ?_
  refine c_cond (t := true) hE rfl ?_
  refine c_regL R36_10_l ?_
  refine q0 p36_10_0 hE (st_move rfl) ?_
  clear hE a; intro a hE
  refine q0 p36_10_1 hE (st_move rfl) ?_
  clear hE a; intro a hE
  have hlt9_g := blk_lt B_g
  have hlt9_gm := blk_lt B_gm
  have hlo9_q4 := fun k (h : OB Aq45 k) => (own_ob O_q4 h).2
  refine p_cons (s_call (xs := [Operand.tmp 32, Operand.tmp 33]) (args := [Value.pointer (some ⟨g, 0, none⟩), Value.int .i64 x]) p36_10_2 hE wn_none rfl rfl Try.func31 cl31 (nbs_any g gm _ nn _ f x hnn _ B_g B_gm hF n_g_gm) ?_)
  rintro e w9 ⟨An, cn, rfl, hcn, hFn, hgn, hk⟩
  replace B_g := kp_blk B_g hk (fun h => h)
  replace B_gm := kp_blk B_gm hk (fun h => h)
  replace O_q4 := own_keep O_q4 hk (fun _ _ h => h)
  replace K_0 := K_0.then_ hk (fun _ h => h.elim)
  have K_9 := Kp.refl w9 (fun k => k < w8.heap.size)
  have hqs_9_g : (fun k => k < w8.heap.size) g ∨ w9.heap.size ≤ g := .inl hlt9_g
  have hqs_9_gm : (fun k => k < w8.heap.size) gm ∨ w9.heap.size ≤ gm := .inl hlt9_gm
  have Z_9_q4 : ∀ k, OB Aq45 k → (fun k => k < w8.heap.size) k ∨ w9.heap.size ≤ k := fun k h => .inl (hlo9_q4 k h)
  have hnl := nbs_len (nn : Int) f x nn
  refine ⟨_, rfl, ?_⟩
  clear hE a; intro a hE
  refine q0 p36_10_3 hE (st_assign rfl) ?_
  clear hE a; intro a hE
  refine p_nil ?_
  refine x_norm ?_
  refine c_reg R36_11_l ?_
  refine q0 p36_11_0 hE (st_move rfl) ?_
  clear hE a; intro a hE
  refine q0 p36_11_1 hE (st_nil rfl) ?_
  clear hE a; intro a hE
  refine q0 p36_11_2 hE (st_fieldAddr Try.underlying83 rfl tS81 rfl rfl) ?_
  clear hE a; intro a hE
  refine q0 p36_11_3 hE (st_load1 tA81 rfl ((blk_cell B_g 1).trans rfl)) ?_
  clear hE a; intro a hE
  refine q0 p36_11_4 hE (Lm.st_lenP Try.underlying81 rfl B_gm) ?_
  clear hE a; intro a hE
  refine q0 p36_11_5 hE (st_assign rfl) ?_
  clear hE a; intro a hE
  refine p_nil ?_
  refine x_norm ?_
  refine wp_seq ?_
  refine c_reg R36_12_l ?_
  refine q0 p36_12_0 hE (st_move rfl) ?_
  clear hE a; intro a hE
  refine q0 p36_12_1 hE (st_len Try.underlying52 rfl) ?_
  clear hE a; intro a hE
  refine q0 p36_12_2 hE (st_move rfl) ?_
  clear hE a; intro a hE
  refine p_nil ?_
  refine x_norm ?_
  refine wp_block ?_
  refine c_loop (α := Nat) (fun j a W => ∃ (es9 : Array MapEntry), En 61 a [(0, Value.pointer (some ⟨g, 0, none⟩)), (1, Value.int .i64 x), (2, Value.slice An ((nbs (nn : Int) f x nn).length) cn), (6, Value.int .i64 0), (7, Value.int .i64 0), (14, Value.bool false), (18, Value.slice Aq45 1 cq46), (19, Value.int .i64 1), (20, Value.int .i64 1), (21, Value.bool false), (9, Value.int .i64 x), (27, Value.bool false), (31, Value.bool true), (10, Value.int .i64 (es.size : Int)), (40, Value.slice An ((nbs (nn : Int) f x nn).length) cn), (41, Value.int .i64 ((nbs (nn : Int) f x nn).length : Int)), (42, Value.int .i64 (j : Int))] ∧ j ≤ (nbs (nn : Int) f x nn).length ∧ Mp.MapF es9 (delR f x ((nbs (nn : Int) f x nn).take j)) ∧ (es.size : Int) - (es9.size : Int) = (j : Int) ∧ W.heap[g]? = some (.cells #[Value.int .i64 (nn : Int), Value.map (some gm)] 83 (0, 0)) ∧ W.heap[gm]? = some (.map es9 ck) ∧ W.ownsRow w.heap.size 3 1 (.slice Aq45 1 cq46) 1 (encs (Value.int .i64) ([x])) ∧ ¬ OB Aq45 g ∧ ¬ OB Aq45 gm ∧ (∀ k, OB Aq45 k → (fun k => k = gm) k ∨ w.heap.size ≤ k) ∧ (∀ k, OB Aq45 k → (fun k => k < w8.heap.size) k ∨ w9.heap.size ≤ k) ∧ Kp w W (fun k => k = gm) ∧ Kp w9 W (fun k => k < w8.heap.size)) (fun j => (nbs (nn : Int) f x nn).length - j) (0) ?_ ?_
  ·
    exact ⟨es, En.sub hE ⟨rfl, rfl, rfl, rfl, rfl, rfl, rfl, rfl, rfl, rfl, rfl, rfl, rfl, rfl, rfl, rfl, rfl, trivial⟩, Nat.zero_le _, hF, (by omega), B_g, B_gm, O_q4, Nb_q4_g, Nb_q4_gm, Z_0_q4, Z_9_q4, K_0, K_9⟩
  ·
    clear hE a
    rintro j a w10 ⟨es9, hE, hj9, MF9, hz9, B_g, B_gm, O_q4, Nb_q4_g, Nb_q4_gm, Z_0_q4, Z_9_q4, K_0, K_9⟩
    rcases Decidable.em ((j : Int) < ((nbs (nn : Int) f x nn).length : Int)) with hK1 | hK1
    ·
      refine c_reg R36_13_l ?_
      refine q0 p36_13_0 hE (st_lss (b := true) rfl rfl (decide_eq_true hK1)) ?_
      clear hE a; intro a hE
      refine p_nil ?_
      refine x_norm ?_
      refine wp_seq ?_
      refine c_cond (t := true) hE rfl ?_
      refine wp_skip ?_
      refine x_norm ?_
      refine wp_seq ?_
      refine wp_block ?_
      refine c_reg R36_14_l ?_
      refine q0 p36_14_0 hE (st_indexAddrC (i := j) Try.underlying52 tS3 (hFn _ K_9) rfl rfl (by omega)) ?_
      clear hE a; intro a hE
      refine q0 (v := Value.int .i64 (rd (nbs (nn : Int) f x nn) (j : Int))) p36_14_1 hE (st_loadC (i := j) tA3 (hFn _ K_9) (by omega) rfl) ?_
      clear hE a; intro a hE
      refine q0 p36_14_2 hE (st_assign rfl) ?_
      clear hE a; intro a hE
      refine p_nil ?_
      refine x_norm ?_
      obtain ⟨yj, hjy⟩ : ∃ y, (nbs (nn : Int) f x nn)[j]? = some y := ⟨_, List.getElem?_eq_getElem (by omega)⟩
      have hyj : (rd (nbs (nn : Int) f x nn) (j : Int)) = yj := by unfold rd; rw [Int.toNat_natCast, List.getD_eq_getElem?_getD, hjy]; rfl
      rw [hyj] at hE
      obtain ⟨fv, hfv⟩ := cost_some (nbs_mem.1 (List.mem_of_getElem? hjy)).2.2
      refine c_draw (S := fun W => W.heap[g]? = some (.cells #[Value.int .i64 (nn : Int), Value.map (some gm)] 83 (0, 0)) ∧ True) rfl rfl (listed := #[false, false, false, false, false, false, false, false]) rfl ?_
      intro w11 hh hk
      replace B_g := kp_blk B_g hk (fun h => h)
      replace B_gm := kp_blk B_gm hk (fun h => h)
      replace O_q4 := own_keep O_q4 hk (fun _ _ h => h)
      replace K_0 := K_0.then_ hk (fun _ h => h.elim)
      replace K_9 := K_9.then_ hk (fun _ h => h.elim)
      clear hh hk
      refine d_take (v := Value.pointer (some ⟨g, 0, none⟩)) p36_15_0 ns36_15 (by kernel_rfl) (by kernel_rfl) (fun _ _ _ h => h) hE wn_none rfl ⟨B_g, trivial⟩ (fun W hS => (st_move rfl)) rfl ?_
      clear hE a; intro a hE
      refine d_take (v := Value.pointer (some ⟨g, 0, none⟩)) p36_15_1 ns36_15 (by kernel_rfl) (by kernel_rfl) (fun _ _ _ h => h) hE wn_none rfl ⟨B_g, trivial⟩ (fun W hS => (st_nil rfl)) rfl ?_
      clear hE a; intro a hE
      refine d_take (v := Value.pointer (some ⟨g, 1, none⟩)) p36_15_2 ns36_15 (by kernel_rfl) (by kernel_rfl) (fun _ _ _ h => h) hE wn_none rfl ⟨B_g, trivial⟩ (fun W hS => (st_fieldAddr Try.underlying83 rfl tS81 rfl rfl)) rfl ?_
      clear hE a; intro a hE
      refine d_take (v := Value.map (some gm)) p36_15_3 ns36_15 (by kernel_rfl) (by kernel_rfl) (fun _ _ _ h => h) hE wn_none rfl ⟨B_g, trivial⟩ (fun W hS => (st_load1 tA81 rfl ((blk_cell hS.1 1).trans rfl))) rfl ?_
      clear hE a; intro a hE
      refine d_take (v := Value.int .i64 x) p36_15_4 ns36_15 (by kernel_rfl) (by kernel_rfl) (fun _ _ _ h => h) hE wn_none rfl ⟨B_g, trivial⟩ (fun W hS => (st_move rfl)) rfl ?_
      clear hE a; intro a hE
      refine d_take (v := Value.int .i64 yj) p36_15_5 ns36_15 (by kernel_rfl) (by kernel_rfl) (fun _ _ _ h => h) hE wn_none rfl ⟨B_g, trivial⟩ (fun W hS => (st_move rfl)) rfl ?_
      clear hE a; intro a hE
      refine d_one (by kernel_rfl) rfl (s_call (xs := [Operand.tmp 50, Operand.tmp 51]) (args := [Value.int .i64 x, Value.int .i64 yj]) p36_15_6 hE wn_none rfl rfl Try.func54 cl54 (of_any x yj _) ?_)
      rintro e w12 ⟨rfl, hk⟩
      replace B_g := kp_blk B_g hk (fun h => h)
      replace B_gm := kp_blk B_gm hk (fun h => h)
      replace O_q4 := own_keep O_q4 hk (fun _ _ h => h)
      replace K_0 := K_0.then_ hk (fun _ h => h.elim)
      replace K_9 := K_9.then_ hk (fun _ h => h.elim)
      refine ⟨_, rfl, ?_⟩
      clear hE a; intro a hE
      refine ⟨⟨B_g, trivial⟩, ?_⟩
      refine d_one (by kernel_rfl) rfl (Lm.s_delP p36_15_7 hE wn_none Try.underlying81 Try.underlying86 Try.underlying3 tS3 mk86 (by kernel_rfl) rfl rfl MF9 B_gm ?_)
      intro esm14 w13 MF_m14 hz_m14 B_gm' hk
      replace B_g := kp_blk B_g hk n_g_gm
      replace O_q4 := own_keep O_q4 hk (fun k hk2 h2 => Nb_q4_gm (by rw [show k = gm from h2] at hk2; exact hk2))
      replace K_0 := K_0.then_ hk (fun k h => by rw [show k = gm from h]; exact Or.inl rfl)
      replace K_9 := K_9.then_ hk (fun k h => by rw [show k = gm from h]; exact hqs_9_gm)
      replace B_gm := B_gm'
      clear hk
      refine ⟨⟨B_g, trivial⟩, ?_⟩
      refine d_end (by kernel_rfl) ?_
      refine x_normB ?_
      refine x_norm ?_
      refine c_regL R36_16_l ?_
      refine q0 p36_16_0 hE (st_add (z := (j : Int) + 1) rfl rfl (wr_i64 _ (by omega) (by omega))) ?_
      clear hE a; intro a hE
      refine q0 p36_16_1 hE (st_move rfl) ?_
      clear hE a; intro a hE
      refine p_nil ?_
      refine x_norm ?_
      have hgt := delR_some (nbs_nodup (nn : Int) f x nn) hjy hfv
      have hz9 := hz_m14
      rw [hgt] at hz9
      have hz8 : (es.size : Int) - (esm14.size : Int) = ((j + 1 : Nat) : Int) := by have : (es9.size : Int) - (esm14.size : Int) = 1 := hz9; omega
      have MFe : Mp.MapF esm14 (delR f x ((nbs (nn : Int) f x nn).take (j + 1))) := by rw [delR_next hjy]; exact MF_m14
      exact ⟨j + 1, by omega, esm14, En.sub hE ⟨rfl, rfl, rfl, rfl, rfl, rfl, rfl, rfl, rfl, rfl, rfl, rfl, rfl, rfl, rfl, rfl, rfl, trivial⟩, by omega, MFe, hz8, B_g, B_gm, O_q4, Nb_q4_g, Nb_q4_gm, Z_0_q4, Z_9_q4, K_0, K_9⟩
    ·
      refine c_reg R36_13_l ?_
      refine q0 p36_13_0 hE (st_lss (b := false) rfl rfl (decide_eq_false hK1)) ?_
      clear hE a; intro a hE
      refine p_nil ?_
      refine x_norm ?_
      refine wp_seq ?_
      refine c_cond (t := false) hE rfl ?_
      refine wp_exit ?_
      refine x_exit ?_
      refine x_exit ?_
      have hjl : j = (nbs (nn : Int) f x nn).length := by omega
      rw [hjl, List.take_length] at MF9
      refine x_in ?_
      refine x_norm ?_
      refine c_reg R36_17_l ?_
      refine q0 p36_17_0 hE (st_move rfl) ?_
      clear hE a; intro a hE
      refine q0 p36_17_1 hE (st_move rfl) ?_
      clear hE a; intro a hE
      refine q0 p36_17_2 hE (st_nil rfl) ?_
      clear hE a; intro a hE
      refine q0 p36_17_3 hE (st_fieldAddr Try.underlying83 rfl tS81 rfl rfl) ?_
      clear hE a; intro a hE
      refine q0 p36_17_4 hE (st_load1 tA81 rfl ((blk_cell B_g 1).trans rfl)) ?_
      clear hE a; intro a hE
      refine q0 p36_17_5 hE (Lm.st_lenP Try.underlying81 rfl B_gm) ?_
      clear hE a; intro a hE
      refine q0 p36_17_6 hE (st_sub (z := (es.size : Int) - (es9.size : Int)) rfl rfl (wr_i64 _ (by omega) (by omega))) ?_
      clear hE a; intro a hE
      refine q0 p36_17_7 hE (st_assign rfl) ?_
      clear hE a; intro a hE
      refine q0 p36_17_8 hE (st_assign rfl) ?_
      clear hE a; intro a hE
      refine p_nil ?_
      refine x_norm ?_
      refine wp_ret ?_
      refine ret_list (rs := [.tmp 6, .tmp 7]) (vs := [Value.int .i64 ((es.size : Int) - (es9.size : Int)), Value.int .i64 0]) rfl hE (.tmp rfl (.tmp rfl .nil)) rfl ?_
      have hz7 : (es.size : Int) - (es9.size : Int) = ((nbs (nn : Int) f x nn).length : Int) := by rw [hz9, hjl]
      exact ⟨es9, by rw [hz7], MF9, B_gm, K_0⟩
theorem al_next {hh : List Int} {j : Nat} (hal : ∀ c, c < j → 0 ≤ Bf.at_ hh c) (h : 0 ≤ rd hh (j : Int)) : ∀ c, c < j + 1 → 0 ≤ Bf.at_ hh c := fun c hc => by
  rcases Nat.lt_or_ge c j with q | q
  · exact hal c q
  · have e : c = j := by omega
    rw [e, ← Lh.rd_at]
    exact h
theorem R40_0_l : List.range (regOf Try.f40 0).size = [0] := by kernel_rfl
theorem R40_1_l : List.range (regOf Try.f40 1).size = [0, 1, 2, 3] := by kernel_rfl
theorem R40_2_l : List.range (regOf Try.f40 2).size = [0] := by kernel_rfl
theorem R40_3_l : List.range (regOf Try.f40 3).size = [0, 1, 2] := by kernel_rfl
theorem R40_4_l : List.range (regOf Try.f40 4).size = [0, 1] := by kernel_rfl
theorem R40_5_l : List.range (regOf Try.f40 5).size = [0] := by kernel_rfl
theorem R40_6_l : List.range (regOf Try.f40 6).size = [0, 1] := by kernel_rfl
theorem R40_7_l : List.range (regOf Try.f40 7).size = [0, 1, 2] := by kernel_rfl
theorem body40 : Try.f40.body = some (.seq (.region 0 (regOf Try.f40 0) false) (.seq (.seq (.region 1 (regOf Try.f40 1) false) (.block 0 (.loop (.seq (.region 2 (regOf Try.f40 2) false) (.seq (.cond (Operand.tmp 9) (.skip) (.exit 0)) (.seq (.block 1 (.seq (.region 3 (regOf Try.f40 3) false) (.seq (.region 4 (regOf Try.f40 4) false) (.cond (Operand.tmp 13) (.seq (.region 5 (regOf Try.f40 5) false) (.ret)) (.skip))))) (.region 6 (regOf Try.f40 6) false))))))) (.seq (.region 7 (regOf Try.f40 7) false) (.ret)))) := by kernel_rfl
theorem p40_0_0 : pj (regOf Try.f40 0) 0 = some (some 2, .assign (.const (.bool false)), 4, none) := by kernel_rfl
theorem p40_1_0 : pj (regOf Try.f40 1) 0 = some (some 5, .move (.tmp 0), 56, none) := by kernel_rfl
theorem p40_1_1 : pj (regOf Try.f40 1) 1 = some (some 6, .call { callee := .value (.func 30), args := #[.tmp 5, .const (.int .i64 0)], argTypes := #[56, 3] }, 52, none) := by kernel_rfl
theorem cl30 : callable Try.f30 = true := by kernel_rfl
theorem p40_1_2 : pj (regOf Try.f40 1) 2 = some (some 7, .call { callee := .builtin .len, args := #[.tmp 6], argTypes := #[52] }, 3, none) := by kernel_rfl
theorem p40_1_3 : pj (regOf Try.f40 1) 3 = some (some 8, .move (.const (.int .i64 0)), 3, none) := by kernel_rfl
theorem p40_2_0 : pj (regOf Try.f40 2) 0 = some (some 9, .binOp .lss 3 (.tmp 8) (.tmp 7) 3, 0, none) := by kernel_rfl
theorem p40_3_0 : pj (regOf Try.f40 3) 0 = some (some 10, .indexAddr 52 (.tmp 6) (.tmp 8), 0, none) := by kernel_rfl
theorem p40_3_1 : pj (regOf Try.f40 3) 1 = some (some 11, .load 3 (.tmp 10), 3, none) := by kernel_rfl
theorem p40_3_2 : pj (regOf Try.f40 3) 2 = some (some 4, .assign (.tmp 11), 3, none) := by kernel_rfl
theorem p40_4_0 : pj (regOf Try.f40 4) 0 = some (some 12, .move (.tmp 4), 3, none) := by kernel_rfl
theorem p40_4_1 : pj (regOf Try.f40 4) 1 = some (some 13, .binOp .lss 3 (.tmp 12) (.const (.int .i64 0)) 3, 4, none) := by kernel_rfl
theorem p40_5_0 : pj (regOf Try.f40 5) 0 = some (some 2, .assign (.const (.bool false)), 4, none) := by kernel_rfl
theorem p40_6_0 : pj (regOf Try.f40 6) 0 = some (some 14, .binOp .add 3 (.tmp 8) (.const (.int .i64 1)) 3, 3, none) := by kernel_rfl
theorem p40_6_1 : pj (regOf Try.f40 6) 1 = some (some 8, .move (.tmp 14), 3, none) := by kernel_rfl
theorem p40_7_0 : pj (regOf Try.f40 7) 0 = some (some 15, .move (.tmp 0), 56, none) := by kernel_rfl
theorem p40_7_1 : pj (regOf Try.f40 7) 1 = some (some 16, .binOp .neq 56 (.tmp 15) (.const (.pointer none)) 56, 4, none) := by kernel_rfl
theorem p40_7_2 : pj (regOf Try.f40 7) 2 = some (some 2, .assign (.tmp 16), 4, none) := by kernel_rfl
set_option maxHeartbeats 4000000 in
theorem conn_any (g gm ck nn : Nat) (es : Array MapEntry) (f : Int → Int → Option Int)  (hn0 : 0 < nn) (hnn : nn ≤ 64) (w : World) (hg : w.heap[g]? = some (.cells #[.int .i64 (nn : Int), .map (some gm)] 83 (0, 0))) (hm : w.heap[gm]? = some (.map es ck)) (hF : Mp.MapF es f) (hne : g ≠ gm) : Calls Try.prog 40 #[.pointer (some ⟨g, 0, none⟩)] w fun e w' => ∃ h b, Lv.Fit (Lh.Ed nn f) nn 0 h ∧ (b = true ↔ ∀ c, c < nn → 0 ≤ Bf.at_ h c) ∧ e = .returned (.bool b) ∧ Kp w w' (fun _ => False) := by
  have K_0 := Kp.refl w (fun _ => False)
  have B_g := hg
  have B_gm := hm
  have n_g_gm := hne
  refine enter (args := [Value.pointer (some ⟨g, 0, none⟩)]) (n := 17) Try.func40 body40 rfl rfl rfl ?_
  intro a hE
  refine c_reg R40_0_l ?_
  refine q0 p40_0_0 hE (st_assign rfl) ?_
  clear hE a; intro a hE
  refine p_nil ?_
  refine x_norm ?_
  refine wp_seq ?_
  refine c_reg R40_1_l ?_
  refine q0 p40_1_0 hE (st_move rfl) ?_
  clear hE a; intro a hE
  refine p_cons (s_call (xs := [Operand.tmp 5, Operand.const (Value.int IntKind.i64 0)]) (args := [Value.pointer (some ⟨g, 0, none⟩), Value.int .i64 0]) p40_1_1 hE wn_none rfl rfl Try.func30 cl30 (Lh.hops_gen g gm _ nn _ f 0 hn0 hnn _ B_g B_gm hF n_g_gm) ?_)
  rintro e w1 ⟨Ah, ch, hh, rfl, hlh, hft, hbd, hgh, hFh, hk⟩
  replace B_g := kp_blk B_g hk (fun h => h)
  replace B_gm := kp_blk B_gm hk (fun h => h)
  replace K_0 := K_0.then_ hk (fun _ h => h.elim)
  have K_s2 := Kp.refl w1 (fun _ => False)
  refine ⟨_, rfl, ?_⟩
  clear hE a; intro a hE
  refine q0 p40_1_2 hE (st_len Try.underlying52 rfl) ?_
  clear hE a; intro a hE
  refine q0 p40_1_3 hE (st_move rfl) ?_
  clear hE a; intro a hE
  refine p_nil ?_
  refine x_norm ?_
  refine wp_block ?_
  refine c_loop (α := Nat) (fun j a W => En 17 a [(0, Value.pointer (some ⟨g, 0, none⟩)), (6, Value.slice Ah nn ch), (7, Value.int .i64 (nn : Int)), (8, Value.int .i64 (j : Int))] ∧ j ≤ nn ∧ (∀ c, c < j → 0 ≤ Bf.at_ hh c) ∧ W.heap[g]? = some (.cells #[Value.int .i64 (nn : Int), Value.map (some gm)] 83 (0, 0)) ∧ W.heap[gm]? = some (.map es ck) ∧ Kp w W (fun _ => False) ∧ Kp w1 W (fun _ => False)) (fun j => nn - j) (0) ?_ ?_
  ·
    exact ⟨En.sub hE ⟨rfl, rfl, rfl, rfl, trivial⟩, Nat.zero_le _, (fun c hc => absurd hc (Nat.not_lt_zero _)), B_g, B_gm, K_0, K_s2⟩
  ·
    clear hE a
    rintro j a w3 ⟨hE, hj9, hal, B_g, B_gm, K_0, K_s2⟩
    rcases Decidable.em ((j : Int) < (nn : Int)) with hK1 | hK1
    ·
      refine c_reg R40_2_l ?_
      refine q0 p40_2_0 hE (st_lss (b := true) rfl rfl (decide_eq_true hK1)) ?_
      clear hE a; intro a hE
      refine p_nil ?_
      refine x_norm ?_
      refine wp_seq ?_
      refine c_cond (t := true) hE rfl ?_
      refine wp_skip ?_
      refine x_norm ?_
      refine wp_seq ?_
      refine wp_block ?_
      refine c_reg R40_3_l ?_
      refine q0 p40_3_0 hE (st_indexAddrC (i := j) Try.underlying52 tS3 (hFh _ K_s2) rfl rfl (by omega)) ?_
      clear hE a; intro a hE
      refine q0 (v := Value.int .i64 (rd hh (j : Int))) p40_3_1 hE (st_loadC (i := j) tA3 (hFh _ K_s2) (by omega) rfl) ?_
      clear hE a; intro a hE
      refine q0 p40_3_2 hE (st_assign rfl) ?_
      clear hE a; intro a hE
      refine p_nil ?_
      refine x_norm ?_
      rcases Decidable.em (rd hh (j : Int) < 0) with hNG | hNG
      ·
        refine c_reg R40_4_l ?_
        refine q0 p40_4_0 hE (st_move rfl) ?_
        clear hE a; intro a hE
        refine q0 p40_4_1 hE (st_lss (b := true) rfl rfl (decide_eq_true hNG)) ?_
        clear hE a; intro a hE
        refine p_nil ?_
        refine x_norm ?_
        refine c_cond (t := true) hE rfl ?_
        refine c_reg R40_5_l ?_
        refine q0 p40_5_0 hE (st_assign rfl) ?_
        clear hE a; intro a hE
        refine p_nil ?_
        refine x_norm ?_
        refine wp_ret ?_
        refine x_retB ?_
        refine x_ret ?_
        refine x_ret ?_
        refine x_retB ?_
        refine x_ret ?_
        refine ret_one (v := Value.bool false) rfl hE (.tmp rfl .nil) ?_
        exact ⟨hh, false, ⟨hft.1, hft.2, hbd⟩, ⟨fun h => (by cases h), fun h => (by have := h j (by omega); rw [← Lh.rd_at] at this; omega)⟩, rfl, K_0⟩
      ·
        refine c_reg R40_4_l ?_
        refine q0 p40_4_0 hE (st_move rfl) ?_
        clear hE a; intro a hE
        refine q0 p40_4_1 hE (st_lss (b := false) rfl rfl (decide_eq_false hNG)) ?_
        clear hE a; intro a hE
        refine p_nil ?_
        refine x_norm ?_
        refine c_cond (t := false) hE rfl ?_
        refine wp_skip ?_
        refine x_normB ?_
        refine x_norm ?_
        refine c_regL R40_6_l ?_
        refine q0 p40_6_0 hE (st_add (z := (j : Int) + 1) rfl rfl (wr_i64 _ (by omega) (by omega))) ?_
        clear hE a; intro a hE
        refine q0 p40_6_1 hE (st_move rfl) ?_
        clear hE a; intro a hE
        refine p_nil ?_
        refine x_norm ?_
        have hal9 := al_next hal (by omega)
        exact ⟨j + 1, by omega, En.sub hE ⟨rfl, rfl, rfl, rfl, trivial⟩, by omega, hal9, B_g, B_gm, K_0, K_s2⟩
    ·
      refine c_reg R40_2_l ?_
      refine q0 p40_2_0 hE (st_lss (b := false) rfl rfl (decide_eq_false hK1)) ?_
      clear hE a; intro a hE
      refine p_nil ?_
      refine x_norm ?_
      refine wp_seq ?_
      refine c_cond (t := false) hE rfl ?_
      refine wp_exit ?_
      refine x_exit ?_
      refine x_exit ?_
      have hjn : j = nn := by omega
      rw [hjn] at hal
      refine x_in ?_
      refine x_norm ?_
      refine c_reg R40_7_l ?_
      refine q0 p40_7_0 hE (st_move rfl) ?_
      clear hE a; intro a hE
      refine q0 p40_7_1 hE (st_neqP (b := true) tP56 rfl rfl rfl) ?_
      clear hE a; intro a hE
      refine q0 p40_7_2 hE (st_assign rfl) ?_
      clear hE a; intro a hE
      refine p_nil ?_
      refine x_norm ?_
      refine wp_ret ?_
      refine ret_one (v := Value.bool true) rfl hE (.tmp rfl .nil) ?_
      exact ⟨hh, true, ⟨hft.1, hft.2, hbd⟩, ⟨fun _ => hal, fun _ => rfl⟩, rfl, K_0⟩
theorem R30_0_l : List.range (regOf Try.f30 0).size = [0] := by kernel_rfl
theorem R30_1_l : List.range (regOf Try.f30 1).size = [0, 1, 2, 3] := by kernel_rfl
theorem R30_2_l : List.range (regOf Try.f30 2).size = [0] := by kernel_rfl
theorem R30_3_l : List.range (regOf Try.f30 3).size = [0, 1, 2, 3, 4, 5] := by kernel_rfl
theorem R30_4_l : List.range (regOf Try.f30 4).size = [0, 1, 2] := by kernel_rfl
theorem R30_5_l : List.range (regOf Try.f30 5).size = [0] := by kernel_rfl
theorem R30_6_l : List.range (regOf Try.f30 6).size = [0, 1] := by kernel_rfl
theorem R30_7_l : List.range (regOf Try.f30 7).size = [0, 1, 2, 3] := by kernel_rfl
theorem R30_8_l : List.range (regOf Try.f30 8).size = [0, 1] := by kernel_rfl
theorem R30_9_l : List.range (regOf Try.f30 9).size = [0, 1, 2, 3] := by kernel_rfl
theorem R30_10_l : List.range (regOf Try.f30 10).size = [0, 1, 2] := by kernel_rfl
theorem R30_11_l : List.range (regOf Try.f30 11).size = [0, 1, 2] := by kernel_rfl
theorem R30_12_l : List.range (regOf Try.f30 12).size = [0, 1, 2, 3] := by kernel_rfl
theorem R30_13_l : List.range (regOf Try.f30 13).size = [0, 1, 2] := by kernel_rfl
theorem R30_14_l : List.range (regOf Try.f30 14).size = [0, 1, 2, 3, 4] := by kernel_rfl
theorem R30_15_l : List.range (regOf Try.f30 15).size = [0] := by kernel_rfl
theorem R30_16_l : List.range (regOf Try.f30 16).size = [0, 1, 2] := by kernel_rfl
theorem R30_17_l : List.range (regOf Try.f30 17).size = [0, 1, 2, 3, 4] := by kernel_rfl
theorem R30_18_l : List.range (regOf Try.f30 18).size = [0, 1, 2, 3, 4, 5, 6, 7, 8] := by kernel_rfl
theorem R30_19_l : List.range (regOf Try.f30 19).size = [0, 1, 2, 3, 4] := by kernel_rfl
theorem R30_20_l : List.range (regOf Try.f30 20).size = [0, 1] := by kernel_rfl
theorem R30_21_l : List.range (regOf Try.f30 21).size = [0, 1] := by kernel_rfl
theorem body30 : Try.f30.body = some (.seq (.region 0 (regOf Try.f30 0) false) (.scope (.seq (.seq (.region 1 (regOf Try.f30 1) false) (.cond (Operand.tmp 14) (.seq (.region 2 (regOf Try.f30 2) false) (.ret)) (.skip))) (.seq (.region 3 (regOf Try.f30 3) false) (.seq (.seq (.region 4 (regOf Try.f30 4) false) (.block 0 (.loop (.seq (.region 5 (regOf Try.f30 5) false) (.seq (.cond (Operand.tmp 23) (.skip) (.exit 0)) (.seq (.block 1 (.seq (.region 6 (regOf Try.f30 6) false) (.region 7 (regOf Try.f30 7) false))) (.region 8 (regOf Try.f30 8) false))))))) (.seq (.region 9 (regOf Try.f30 9) false) (.seq (.region 10 (regOf Try.f30 10) false) (.seq (.label 0) (.seq (.block 2 (.loop (.block 3 (.seq (.seq (.region 11 (regOf Try.f30 11) false) (.cond (Operand.tmp 36) (.exit 2) (.skip))) (.seq (.region 12 (regOf Try.f30 12) false) (.seq (.region 13 (regOf Try.f30 13) false) (.seq (.region 14 (regOf Try.f30 14) false) (.block 4 (.loop (.seq (.region 15 (regOf Try.f30 15) false) (.seq (.cond (Operand.tmp 47) (.skip) (.exit 4)) (.seq (.block 5 (.seq (.region 16 (regOf Try.f30 16) false) (.seq (.seq (.region 17 (regOf Try.f30 17) false) (.cond (Operand.tmp 54) (.exit 5) (.skip))) (.seq (.region 18 (regOf Try.f30 18) false) (.region 19 (regOf Try.f30 19) false))))) (.region 20 (regOf Try.f30 20) false))))))))))))) (.seq (.region 21 (regOf Try.f30 21) false) (.ret))))))))))) := by kernel_rfl
theorem p30_0_0 : pj (regOf Try.f30 0) 0 = some (some 4, .assign (.const (.slice none 0 0)), 52, none) := by kernel_rfl
theorem p30_1_0 : pj (regOf Try.f30 1) 0 = some (some 11, .move (.tmp 0), 56, none) := by kernel_rfl
theorem p30_1_1 : pj (regOf Try.f30 1) 1 = some (some 12, .move (.tmp 1), 3, none) := by kernel_rfl
theorem p30_1_2 : pj (regOf Try.f30 1) 2 = some (some 13, .call { callee := .value (.func 55), args := #[.tmp 11, .tmp 12], argTypes := #[56, 3] }, 4, none) := by kernel_rfl
theorem p30_1_3 : pj (regOf Try.f30 1) 3 = some (some 14, .unOp .not 4 (.tmp 13), 4, none) := by kernel_rfl
theorem p30_2_0 : pj (regOf Try.f30 2) 0 = some (some 4, .assign (.const (.slice none 0 0)), 52, none) := by kernel_rfl
set_option maxHeartbeats 4000000 in
theorem hops_bad (g gm ck nn : Nat) (es : Array MapEntry) (f : Int → Int → Option Int)  (x : Int) (hx0 : nodeB (nn : Int) x = false) (w : World) (hg : w.heap[g]? = some (.cells #[.int .i64 (nn : Int), .map (some gm)] 83 (0, 0))) (hm : w.heap[gm]? = some (.map es ck)) (hF : Mp.MapF es f) (hne : g ≠ gm) : Calls Try.prog 30 #[.pointer (some ⟨g, 0, none⟩), .int .i64 x] w fun e w' => e = .returned (.slice none 0 0) ∧ Kp w w' (fun _ => False) := by
  have K_0 := Kp.refl w (fun _ => False)
  have B_g := hg
  have B_gm := hm
  have n_g_gm := hne
  refine enter (args := [Value.pointer (some ⟨g, 0, none⟩), Value.int .i64 x]) (n := 69) Try.func30 body30 rfl rfl rfl ?_
  intro a hE
  refine c_reg R30_0_l ?_
  refine q0 p30_0_0 hE (st_assign rfl) ?_
  clear hE a; intro a hE
  refine p_nil ?_
  refine x_norm ?_
  refine wp_scope_straight ?_
  refine wp_seq ?_
  refine c_reg R30_1_l ?_
  refine q0 p30_1_0 hE (st_move rfl) ?_
  clear hE a; intro a hE
  refine q0 p30_1_1 hE (st_move rfl) ?_
  clear hE a; intro a hE
  refine p_cons (s_call (xs := [Operand.tmp 11, Operand.tmp 12]) (args := [Value.pointer (some ⟨g, 0, none⟩), Value.int .i64 x]) p30_1_2 hE wn_none rfl rfl Try.func55 cl55 (node_any g (nn : Int) x _ false hx0 _ B_g) ?_)
  rintro e w1 ⟨rfl, hk⟩
  replace B_g := kp_blk B_g hk (fun h => h)
  replace B_gm := kp_blk B_gm hk (fun h => h)
  replace K_0 := K_0.then_ hk (fun _ h => h.elim)
  refine ⟨_, rfl, ?_⟩
  clear hE a; intro a hE
  refine q0 p30_1_3 hE (st_not rfl rfl) ?_
  clear hE a; intro a hE
  refine p_nil ?_
  refine x_norm ?_
  refine c_cond (t := true) hE rfl ?_
  refine c_reg R30_2_l ?_
  refine q0 p30_2_0 hE (st_assign rfl) ?_
  clear hE a; intro a hE
  refine p_nil ?_
  refine x_norm ?_
  refine wp_ret ?_
  refine x_ret ?_
  refine x_retS ?_
  refine ret_one (v := Value.slice none 0 0) rfl hE (.tmp rfl .nil) ?_
  exact ⟨rfl, K_0⟩
theorem costV_rng {m : Nat} (h : Fl.right m) : 128 ≤ Fl.costV m ∧ Fl.costV m ≤ 65535 := by
  constructor
  · have h1 : Fl.right 4607182418800017408 := by decide +kernel
    have h2 := Fl.costV_mono h1 h h.1
    rw [show Fl.costV 4607182418800017408 = 128 by decide +kernel] at h2
    exact h2
  · unfold Fl.costV
    rw [if_pos h]
    split
    · exact Int.le_refl _
    · split <;> omega
def measF (n : Int) (f : Int → Int → Option Int) (x y : Int) (m : Nat) : Int → Int → Option Int := if bothB n x y = true ∧ Fl.right m then (if Fl.costV m = 65535 then Lm.delF f (min x y) (max x y) else Mp.setF f (min x y) (max x y) (Fl.costV m)) else f
def measC (n x y : Int) (m : Nat) : Int := if bothB n x y = true ∧ Fl.right m then 0 else 1
theorem R57_0_l : List.range (regOf Try.f57 0).size = [0] := by kernel_rfl
theorem R57_1_l : List.range (regOf Try.f57 1).size = [0, 1, 2, 3, 4] := by kernel_rfl
theorem R57_2_l : List.range (regOf Try.f57 2).size = [0, 1] := by kernel_rfl
theorem R57_3_l : List.range (regOf Try.f57 3).size = [0, 1] := by kernel_rfl
theorem R57_4_l : List.range (regOf Try.f57 4).size = [0, 1, 2, 3, 4, 5, 6] := by kernel_rfl
theorem R57_5_l : List.range (regOf Try.f57 5).size = [0, 1, 2] := by kernel_rfl
theorem R57_6_l : List.range (regOf Try.f57 6).size = [0, 1] := by kernel_rfl
theorem R57_7_l : List.range (regOf Try.f57 7).size = [0, 1, 2] := by kernel_rfl
theorem R57_8_l : List.range (regOf Try.f57 8).size = [0, 1, 2, 3, 4, 5, 6, 7] := by kernel_rfl
theorem R57_9_l : List.range (regOf Try.f57 9).size = [0] := by kernel_rfl
theorem R57_10_l : List.range (regOf Try.f57 10).size = [0, 1, 2, 3, 4, 5] := by kernel_rfl
theorem body57 : Try.f57.body = some (.seq (.region 0 (regOf Try.f57 0) false) (.seq (.seq (.region 1 (regOf Try.f57 1) false) (.seq (.region 2 (regOf Try.f57 2) false) (.cond (Operand.tmp 17) (.seq (.region 3 (regOf Try.f57 3) false) (.ret)) (.skip)))) (.seq (.region 4 (regOf Try.f57 4) false) (.seq (.block 0 (.seq (.region 5 (regOf Try.f57 5) false) (.cond (Operand.tmp 24) (.seq (.region 6 (regOf Try.f57 6) false) (.ret)) (.seq (.region 7 (regOf Try.f57 7) false) (.cond (Operand.tmp 28) (.seq (.region 8 (regOf Try.f57 8) true) (.seq (.region 9 (regOf Try.f57 9) false) (.ret))) (.skip)))))) (.seq (.region 10 (regOf Try.f57 10) false) (.ret)))))) := by kernel_rfl
theorem p57_0_0 : pj (regOf Try.f57 0) 0 = some (some 8, .assign (.const (.int .i64 0)), 23, none) := by kernel_rfl
theorem p57_1_0 : pj (regOf Try.f57 1) 0 = some (some 12, .move (.tmp 0), 56, none) := by kernel_rfl
theorem p57_1_1 : pj (regOf Try.f57 1) 1 = some (some 13, .move (.tmp 1), 3, none) := by kernel_rfl
theorem p57_1_2 : pj (regOf Try.f57 1) 2 = some (some 14, .move (.tmp 2), 3, none) := by kernel_rfl
theorem p57_1_3 : pj (regOf Try.f57 1) 3 = some (some 15, .call { callee := .value (.func 53), args := #[.tmp 12, .tmp 13, .tmp 14], argTypes := #[56, 3, 3] }, 23, none) := by kernel_rfl
theorem cl53 : callable Try.f53 = true := by kernel_rfl
theorem p57_1_4 : pj (regOf Try.f57 1) 4 = some (some 9, .assign (.tmp 15), 23, none) := by kernel_rfl
theorem p57_2_0 : pj (regOf Try.f57 2) 0 = some (some 16, .move (.tmp 9), 23, none) := by kernel_rfl
theorem p57_2_1 : pj (regOf Try.f57 2) 1 = some (some 17, .binOp .neq 23 (.tmp 16) (.const (.int .i64 0)) 23, 4, none) := by kernel_rfl
theorem p57_4_0 : pj (regOf Try.f57 4) 0 = some (some 20, .move (.tmp 3), 22, none) := by kernel_rfl
theorem p57_4_1 : pj (regOf Try.f57 4) 1 = some (some 21, .call { callee := .value (.func 10), args := #[.tmp 20], argTypes := #[22] }, 24, none) := by kernel_rfl
theorem cl10 : callable Try.f10 = true := by kernel_rfl
theorem p57_4_2 : pj (regOf Try.f57 4) 2 = some (some 19, .move (.tmp 21), 24, none) := by kernel_rfl
theorem p57_4_3 : pj (regOf Try.f57 4) 3 = some (some 22, .extract (.tmp 19) 0, 3, none) := by kernel_rfl
theorem p57_4_4 : pj (regOf Try.f57 4) 4 = some (some 23, .extract (.tmp 19) 1, 23, none) := by kernel_rfl
theorem p57_4_5 : pj (regOf Try.f57 4) 5 = some (some 10, .assign (.tmp 22), 3, none) := by kernel_rfl
theorem p57_4_6 : pj (regOf Try.f57 4) 6 = some (some 11, .assign (.tmp 23), 23, none) := by kernel_rfl
theorem p57_5_0 : pj (regOf Try.f57 5) 0 = some (some 25, .move (.tmp 11), 23, none) := by kernel_rfl
theorem p57_5_1 : pj (regOf Try.f57 5) 1 = some (some 26, .binOp .neq 23 (.tmp 25) (.const (.int .i64 0)) 23, 4, none) := by kernel_rfl
theorem p57_5_2 : pj (regOf Try.f57 5) 2 = some (some 24, .assign (.tmp 26), 4, none) := by kernel_rfl
theorem p57_7_0 : pj (regOf Try.f57 7) 0 = some (some 29, .move (.tmp 10), 3, none) := by kernel_rfl
theorem p57_7_1 : pj (regOf Try.f57 7) 1 = some (some 30, .binOp .eql 3 (.tmp 29) (.const (.int .i64 65535)) 3, 4, none) := by kernel_rfl
theorem p57_7_2 : pj (regOf Try.f57 7) 2 = some (some 28, .assign (.tmp 30), 4, none) := by kernel_rfl
theorem ns57_8 : Region.noSelect (regOf Try.f57 8) = true := by kernel_rfl
theorem p57_8_0 : pj (regOf Try.f57 8) 0 = some (some 31, .move (.tmp 0), 56, none) := by kernel_rfl
theorem p57_8_1 : pj (regOf Try.f57 8) 1 = some (some 32, .nilCheck (.tmp 31), 0, none) := by kernel_rfl
theorem p57_8_2 : pj (regOf Try.f57 8) 2 = some (some 33, .fieldAddr 83 (.tmp 32) 1, 0, none) := by kernel_rfl
theorem p57_8_3 : pj (regOf Try.f57 8) 3 = some (some 34, .load 81 (.tmp 33), 81, none) := by kernel_rfl
theorem p57_8_4 : pj (regOf Try.f57 8) 4 = some (some 35, .move (.tmp 1), 3, none) := by kernel_rfl
theorem p57_8_5 : pj (regOf Try.f57 8) 5 = some (some 36, .move (.tmp 2), 3, none) := by kernel_rfl
theorem p57_8_6 : pj (regOf Try.f57 8) 6 = some (some 37, .call { callee := .value (.func 54), args := #[.tmp 35, .tmp 36], argTypes := #[3, 3] }, 86, none) := by kernel_rfl
theorem p57_8_7 : pj (regOf Try.f57 8) 7 = some (none, .call { callee := .builtin .delete, args := #[.tmp 34, .tmp 37], argTypes := #[81, 86] }, 0, none) := by kernel_rfl
theorem p57_9_0 : pj (regOf Try.f57 9) 0 = some (some 8, .assign (.const (.int .i64 0)), 23, none) := by kernel_rfl
theorem p57_10_0 : pj (regOf Try.f57 10) 0 = some (some 38, .move (.tmp 0), 56, none) := by kernel_rfl
theorem p57_10_1 : pj (regOf Try.f57 10) 1 = some (some 39, .move (.tmp 1), 3, none) := by kernel_rfl
theorem p57_10_2 : pj (regOf Try.f57 10) 2 = some (some 40, .move (.tmp 2), 3, none) := by kernel_rfl
theorem p57_10_3 : pj (regOf Try.f57 10) 3 = some (some 41, .move (.tmp 10), 3, none) := by kernel_rfl
theorem p57_10_4 : pj (regOf Try.f57 10) 4 = some (some 42, .call { callee := .value (.func 29), args := #[.tmp 38, .tmp 39, .tmp 40, .tmp 41], argTypes := #[56, 3, 3, 3] }, 23, none) := by kernel_rfl
theorem cl29 : callable Try.f29 = true := by kernel_rfl
theorem p57_10_5 : pj (regOf Try.f57 10) 5 = some (some 8, .assign (.tmp 42), 23, none) := by kernel_rfl
theorem p57_6_0 : pj (regOf Try.f57 6) 0 = some (some 27, .move (.tmp 11), 23, none) := by kernel_rfl
theorem p57_6_1 : pj (regOf Try.f57 6) 1 = some (some 8, .assign (.tmp 27), 23, none) := by kernel_rfl
theorem p57_3_0 : pj (regOf Try.f57 3) 0 = some (some 18, .move (.tmp 9), 23, none) := by kernel_rfl
theorem p57_3_1 : pj (regOf Try.f57 3) 1 = some (some 8, .assign (.tmp 18), 23, none) := by kernel_rfl
set_option maxHeartbeats 4000000 in
theorem meas_any (g gm ck nn : Nat) (es : Array MapEntry) (f : Int → Int → Option Int)  (x y : Int) (m : Nat) (hm9 : m < 18446744073709551616) (w : World) (hg : w.heap[g]? = some (.cells #[.int .i64 (nn : Int), .map (some gm)] 83 (0, 0))) (hm : w.heap[gm]? = some (.map es ck)) (hF : Mp.MapF es f) (hne : g ≠ gm) : Calls Try.prog 57 #[.pointer (some ⟨g, 0, none⟩), .int .i64 x, .int .i64 y, .float .f64 m] w fun e w' => ∃ es' ck', e = .returned (.int .i64 (measC (nn : Int) x y m)) ∧ Mp.MapF es' (measF (nn : Int) f x y m) ∧ w'.heap[gm]? = some (.map es' ck') ∧ Kp w w' (fun k => k = gm) := by
  have K_0 := Kp.refl w (fun k => k = gm)
  have B_g := hg
  have B_gm := hm
  have n_g_gm := hne
  refine enter (args := [Value.pointer (some ⟨g, 0, none⟩), Value.int .i64 x, Value.int .i64 y, Value.float .f64 m]) (n := 43) Try.func57 body57 rfl rfl rfl ?_
  intro a hE
  refine c_reg R57_0_l ?_
  refine q0 p57_0_0 hE (st_assign rfl) ?_
  clear hE a; intro a hE
  refine p_nil ?_
  refine x_norm ?_
  refine wp_seq ?_
  rcases Decidable.em (bothB (nn : Int) x y = true) with hBO | hBO
  ·
    rcases Decidable.em (Fl.right m) with hRI | hRI
    ·
      have hrg := costV_rng hRI
      rcases Decidable.em (Fl.costV m = 65535) with hC5 | hC5
      ·
        refine c_reg R57_1_l ?_
        refine q0 p57_1_0 hE (st_move rfl) ?_
        clear hE a; intro a hE
        refine q0 p57_1_1 hE (st_move rfl) ?_
        clear hE a; intro a hE
        refine q0 p57_1_2 hE (st_move rfl) ?_
        clear hE a; intro a hE
        refine p_cons (s_call (xs := [Operand.tmp 12, Operand.tmp 13, Operand.tmp 14]) (args := [Value.pointer (some ⟨g, 0, none⟩), Value.int .i64 x, Value.int .i64 y]) p57_1_3 hE wn_none rfl rfl Try.func53 cl53 (both_ok g (nn : Int) x y (Value.map (some gm)) hBO _ B_g) ?_)
        rintro e w1 ⟨rfl, hk⟩
        replace B_g := kp_blk B_g hk (fun h => h)
        replace B_gm := kp_blk B_gm hk (fun h => h)
        replace K_0 := K_0.then_ hk (fun _ h => h.elim)
        refine ⟨_, rfl, ?_⟩
        clear hE a; intro a hE
        refine q0 p57_1_4 hE (st_assign rfl) ?_
        clear hE a; intro a hE
        refine p_nil ?_
        refine x_norm ?_
        refine c_reg R57_2_l ?_
        refine q0 p57_2_0 hE (st_move rfl) ?_
        clear hE a; intro a hE
        refine q0 p57_2_1 hE (st_neq (b := false) rfl rfl (by decide)) ?_
        clear hE a; intro a hE
        refine p_nil ?_
        refine x_norm ?_
        refine c_cond (t := false) hE rfl ?_
        refine wp_skip ?_
        refine x_norm ?_
        refine c_reg R57_4_l ?_
        refine q0 p57_4_0 hE (st_move rfl) ?_
        clear hE a; intro a hE
        refine p_cons (s_call (xs := [Operand.tmp 20]) (args := [Value.float .f64 m]) p57_4_1 hE wn_none rfl rfl Try.func10 cl10 (Me.cost_any m hm9 65535 0 hC5 (if_pos hRI) _) ?_)
        rintro e w2 ⟨rfl, hk⟩
        replace B_g := kp_blk B_g hk (fun h => h)
        replace B_gm := kp_blk B_gm hk (fun h => h)
        replace K_0 := K_0.then_ hk (fun _ h => h.elim)
        refine ⟨_, rfl, ?_⟩
        clear hE a; intro a hE
        refine q0 p57_4_2 hE (st_move rfl) ?_
        clear hE a; intro a hE
        refine q0 p57_4_3 hE (st_extract rfl rfl) ?_
        clear hE a; intro a hE
        refine q0 p57_4_4 hE (st_extract rfl rfl) ?_
        clear hE a; intro a hE
        refine q0 p57_4_5 hE (st_assign rfl) ?_
        clear hE a; intro a hE
        refine q0 p57_4_6 hE (st_assign rfl) ?_
        clear hE a; intro a hE
        refine p_nil ?_
        refine x_norm ?_
        refine wp_seq ?_
        refine wp_block ?_
        refine c_reg R57_5_l ?_
        refine q0 p57_5_0 hE (st_move rfl) ?_
        clear hE a; intro a hE
        refine q0 p57_5_1 hE (st_neq (b := false) rfl rfl (by decide)) ?_
        clear hE a; intro a hE
        refine q0 p57_5_2 hE (st_assign rfl) ?_
        clear hE a; intro a hE
        refine p_nil ?_
        refine x_norm ?_
        refine c_cond (t := false) hE rfl ?_
        refine c_reg R57_7_l ?_
        refine q0 p57_7_0 hE (st_move rfl) ?_
        clear hE a; intro a hE
        refine q0 p57_7_1 hE (st_eql (b := true) rfl rfl (by decide)) ?_
        clear hE a; intro a hE
        refine q0 p57_7_2 hE (st_assign rfl) ?_
        clear hE a; intro a hE
        refine p_nil ?_
        refine x_norm ?_
        refine c_cond (t := true) hE rfl ?_
        refine c_drawS (S := fun W => W.heap[g]? = some (.cells #[Value.int .i64 (nn : Int), Value.map (some gm)] 83 (0, 0)) ∧ True) rfl rfl (listed := #[false, false, false, false, false, false, false, false]) rfl ?_
        intro w3 hh hk
        replace B_g := kp_blk B_g hk (fun h => h)
        replace B_gm := kp_blk B_gm hk (fun h => h)
        replace K_0 := K_0.then_ hk (fun _ h => h.elim)
        clear hh hk
        refine d_take (v := Value.pointer (some ⟨g, 0, none⟩)) p57_8_0 ns57_8 (by kernel_rfl) (by kernel_rfl) (fun _ _ _ h => h) hE wn_none rfl ⟨B_g, trivial⟩ (fun W hS => (st_move rfl)) rfl ?_
        clear hE a; intro a hE
        refine d_take (v := Value.pointer (some ⟨g, 0, none⟩)) p57_8_1 ns57_8 (by kernel_rfl) (by kernel_rfl) (fun _ _ _ h => h) hE wn_none rfl ⟨B_g, trivial⟩ (fun W hS => (st_nil rfl)) rfl ?_
        clear hE a; intro a hE
        refine d_take (v := Value.pointer (some ⟨g, 1, none⟩)) p57_8_2 ns57_8 (by kernel_rfl) (by kernel_rfl) (fun _ _ _ h => h) hE wn_none rfl ⟨B_g, trivial⟩ (fun W hS => (st_fieldAddr Try.underlying83 rfl tS81 rfl rfl)) rfl ?_
        clear hE a; intro a hE
        refine d_take (v := Value.map (some gm)) p57_8_3 ns57_8 (by kernel_rfl) (by kernel_rfl) (fun _ _ _ h => h) hE wn_none rfl ⟨B_g, trivial⟩ (fun W hS => (st_load1 tA81 rfl ((blk_cell hS.1 1).trans rfl))) rfl ?_
        clear hE a; intro a hE
        refine d_take (v := Value.int .i64 x) p57_8_4 ns57_8 (by kernel_rfl) (by kernel_rfl) (fun _ _ _ h => h) hE wn_none rfl ⟨B_g, trivial⟩ (fun W hS => (st_move rfl)) rfl ?_
        clear hE a; intro a hE
        refine d_take (v := Value.int .i64 y) p57_8_5 ns57_8 (by kernel_rfl) (by kernel_rfl) (fun _ _ _ h => h) hE wn_none rfl ⟨B_g, trivial⟩ (fun W hS => (st_move rfl)) rfl ?_
        clear hE a; intro a hE
        refine d_one (by kernel_rfl) rfl (s_call (xs := [Operand.tmp 35, Operand.tmp 36]) (args := [Value.int .i64 x, Value.int .i64 y]) p57_8_6 hE wn_none rfl rfl Try.func54 cl54 (of_any x y _) ?_)
        rintro e w4 ⟨rfl, hk⟩
        replace B_g := kp_blk B_g hk (fun h => h)
        replace B_gm := kp_blk B_gm hk (fun h => h)
        replace K_0 := K_0.then_ hk (fun _ h => h.elim)
        refine ⟨_, rfl, ?_⟩
        clear hE a; intro a hE
        refine ⟨⟨B_g, trivial⟩, ?_⟩
        refine d_one (by kernel_rfl) rfl (Lm.s_delP p57_8_7 hE wn_none Try.underlying81 Try.underlying86 Try.underlying3 tS3 mk86 (by kernel_rfl) rfl rfl hF B_gm ?_)
        intro esm6 w5 MF_m6 hz_m6 B_gm' hk
        replace B_g := kp_blk B_g hk n_g_gm
        replace K_0 := K_0.then_ hk (fun k h => by rw [show k = gm from h]; exact Or.inl rfl)
        replace B_gm := B_gm'
        clear hk
        refine ⟨⟨B_g, trivial⟩, ?_⟩
        refine d_end (by kernel_rfl) ?_
        refine x_norm ?_
        refine c_reg R57_9_l ?_
        refine q0 p57_9_0 hE (st_assign rfl) ?_
        clear hE a; intro a hE
        refine p_nil ?_
        refine x_norm ?_
        refine wp_ret ?_
        refine x_retB ?_
        refine x_ret ?_
        refine ret_one (v := Value.int .i64 0) rfl hE (.tmp rfl .nil) ?_
        have hmc : measC (nn : Int) x y m = 0 := if_pos ⟨hBO, hRI⟩
        have hmf : measF (nn : Int) f x y m = Lm.delF f (min x y) (max x y) := by unfold measF; rw [if_pos ⟨hBO, hRI⟩, if_pos hC5]
        exact ⟨esm6, ck, by rw [hmc], by rw [hmf]; exact MF_m6, B_gm, K_0⟩
      ·
        refine c_reg R57_1_l ?_
        refine q0 p57_1_0 hE (st_move rfl) ?_
        clear hE a; intro a hE
        refine q0 p57_1_1 hE (st_move rfl) ?_
        clear hE a; intro a hE
        refine q0 p57_1_2 hE (st_move rfl) ?_
        clear hE a; intro a hE
        refine p_cons (s_call (xs := [Operand.tmp 12, Operand.tmp 13, Operand.tmp 14]) (args := [Value.pointer (some ⟨g, 0, none⟩), Value.int .i64 x, Value.int .i64 y]) p57_1_3 hE wn_none rfl rfl Try.func53 cl53 (both_ok g (nn : Int) x y (Value.map (some gm)) hBO _ B_g) ?_)
        rintro e w7 ⟨rfl, hk⟩
        replace B_g := kp_blk B_g hk (fun h => h)
        replace B_gm := kp_blk B_gm hk (fun h => h)
        replace K_0 := K_0.then_ hk (fun _ h => h.elim)
        refine ⟨_, rfl, ?_⟩
        clear hE a; intro a hE
        refine q0 p57_1_4 hE (st_assign rfl) ?_
        clear hE a; intro a hE
        refine p_nil ?_
        refine x_norm ?_
        refine c_reg R57_2_l ?_
        refine q0 p57_2_0 hE (st_move rfl) ?_
        clear hE a; intro a hE
        refine q0 p57_2_1 hE (st_neq (b := false) rfl rfl (by decide)) ?_
        clear hE a; intro a hE
        refine p_nil ?_
        refine x_norm ?_
        refine c_cond (t := false) hE rfl ?_
        refine wp_skip ?_
        refine x_norm ?_
        refine c_reg R57_4_l ?_
        refine q0 p57_4_0 hE (st_move rfl) ?_
        clear hE a; intro a hE
        refine p_cons (s_call (xs := [Operand.tmp 20]) (args := [Value.float .f64 m]) p57_4_1 hE wn_none rfl rfl Try.func10 cl10 (Me.cost_any m hm9 (Fl.costV m) 0 rfl (if_pos hRI) _) ?_)
        rintro e w8 ⟨rfl, hk⟩
        replace B_g := kp_blk B_g hk (fun h => h)
        replace B_gm := kp_blk B_gm hk (fun h => h)
        replace K_0 := K_0.then_ hk (fun _ h => h.elim)
        refine ⟨_, rfl, ?_⟩
        clear hE a; intro a hE
        refine q0 p57_4_2 hE (st_move rfl) ?_
        clear hE a; intro a hE
        refine q0 p57_4_3 hE (st_extract rfl rfl) ?_
        clear hE a; intro a hE
        refine q0 p57_4_4 hE (st_extract rfl rfl) ?_
        clear hE a; intro a hE
        refine q0 p57_4_5 hE (st_assign rfl) ?_
        clear hE a; intro a hE
        refine q0 p57_4_6 hE (st_assign rfl) ?_
        clear hE a; intro a hE
        refine p_nil ?_
        refine x_norm ?_
        refine wp_seq ?_
        refine wp_block ?_
        refine c_reg R57_5_l ?_
        refine q0 p57_5_0 hE (st_move rfl) ?_
        clear hE a; intro a hE
        refine q0 p57_5_1 hE (st_neq (b := false) rfl rfl (by decide)) ?_
        clear hE a; intro a hE
        refine q0 p57_5_2 hE (st_assign rfl) ?_
        clear hE a; intro a hE
        refine p_nil ?_
        refine x_norm ?_
        refine c_cond (t := false) hE rfl ?_
        refine c_reg R57_7_l ?_
        refine q0 p57_7_0 hE (st_move rfl) ?_
        clear hE a; intro a hE
        refine q0 p57_7_1 hE (st_eql (b := false) rfl rfl (decide_eq_false hC5)) ?_
        clear hE a; intro a hE
        refine q0 p57_7_2 hE (st_assign rfl) ?_
        clear hE a; intro a hE
        refine p_nil ?_
        refine x_norm ?_
        refine c_cond (t := false) hE rfl ?_
        refine wp_skip ?_
        refine x_normB ?_
        refine x_norm ?_
        refine c_reg R57_10_l ?_
        refine q0 p57_10_0 hE (st_move rfl) ?_
        clear hE a; intro a hE
        refine q0 p57_10_1 hE (st_move rfl) ?_
        clear hE a; intro a hE
        refine q0 p57_10_2 hE (st_move rfl) ?_
        clear hE a; intro a hE
        refine q0 p57_10_3 hE (st_move rfl) ?_
        clear hE a; intro a hE
        have hst : setB (nn : Int) x y (Fl.costV m) = true := by unfold setB; rw [hBO, decide_eq_true ⟨by omega, by omega⟩]; rfl
        have hct := set_any g gm _ _ f (nn : Int) x y (Fl.costV m) w8 B_g B_gm hF n_g_gm
        rw [hst] at hct
        refine p_cons (s_call (xs := [Operand.tmp 38, Operand.tmp 39, Operand.tmp 40, Operand.tmp 41]) (args := [Value.pointer (some ⟨g, 0, none⟩), Value.int .i64 x, Value.int .i64 y, Value.int .i64 (Fl.costV m)]) p57_10_4 hE wn_none rfl rfl Try.func29 cl29 (hct) ?_)
        rintro e w10 ⟨esm9, ckm9, rfl, MFm9, B_gm', hk⟩
        replace B_g := kp_blk B_g hk n_g_gm
        replace K_0 := K_0.then_ hk (fun k h => by rw [show k = gm from h]; exact Or.inl rfl)
        replace B_gm := B_gm'
        refine ⟨_, rfl, ?_⟩
        clear hE a; intro a hE
        refine q0 p57_10_5 hE (st_assign rfl) ?_
        clear hE a; intro a hE
        refine p_nil ?_
        refine x_norm ?_
        refine wp_ret ?_
        refine ret_one (v := Value.int .i64 0) rfl hE (.tmp rfl .nil) ?_
        have hmc : measC (nn : Int) x y m = 0 := if_pos ⟨hBO, hRI⟩
        have hmf : measF (nn : Int) f x y m = lkS (nn : Int) f x y (Fl.costV m) := by unfold measF lkS; rw [if_pos ⟨hBO, hRI⟩, if_neg hC5, if_pos hst]
        exact ⟨esm9, ckm9, by rw [hmc], by rw [hmf]; exact MFm9, B_gm, K_0⟩
    ·
      refine c_reg R57_1_l ?_
      refine q0 p57_1_0 hE (st_move rfl) ?_
      clear hE a; intro a hE
      refine q0 p57_1_1 hE (st_move rfl) ?_
      clear hE a; intro a hE
      refine q0 p57_1_2 hE (st_move rfl) ?_
      clear hE a; intro a hE
      refine p_cons (s_call (xs := [Operand.tmp 12, Operand.tmp 13, Operand.tmp 14]) (args := [Value.pointer (some ⟨g, 0, none⟩), Value.int .i64 x, Value.int .i64 y]) p57_1_3 hE wn_none rfl rfl Try.func53 cl53 (both_ok g (nn : Int) x y (Value.map (some gm)) hBO _ B_g) ?_)
      rintro e w11 ⟨rfl, hk⟩
      replace B_g := kp_blk B_g hk (fun h => h)
      replace B_gm := kp_blk B_gm hk (fun h => h)
      replace K_0 := K_0.then_ hk (fun _ h => h.elim)
      refine ⟨_, rfl, ?_⟩
      clear hE a; intro a hE
      refine q0 p57_1_4 hE (st_assign rfl) ?_
      clear hE a; intro a hE
      refine p_nil ?_
      refine x_norm ?_
      refine c_reg R57_2_l ?_
      refine q0 p57_2_0 hE (st_move rfl) ?_
      clear hE a; intro a hE
      refine q0 p57_2_1 hE (st_neq (b := false) rfl rfl (by decide)) ?_
      clear hE a; intro a hE
      refine p_nil ?_
      refine x_norm ?_
      refine c_cond (t := false) hE rfl ?_
      refine wp_skip ?_
      refine x_norm ?_
      refine c_reg R57_4_l ?_
      refine q0 p57_4_0 hE (st_move rfl) ?_
      clear hE a; intro a hE
      refine p_cons (s_call (xs := [Operand.tmp 20]) (args := [Value.float .f64 m]) p57_4_1 hE wn_none rfl rfl Try.func10 cl10 (Me.cost_any m hm9 0 1 (if_neg hRI) (if_neg hRI) _) ?_)
      rintro e w12 ⟨rfl, hk⟩
      replace B_g := kp_blk B_g hk (fun h => h)
      replace B_gm := kp_blk B_gm hk (fun h => h)
      replace K_0 := K_0.then_ hk (fun _ h => h.elim)
      refine ⟨_, rfl, ?_⟩
      clear hE a; intro a hE
      refine q0 p57_4_2 hE (st_move rfl) ?_
      clear hE a; intro a hE
      refine q0 p57_4_3 hE (st_extract rfl rfl) ?_
      clear hE a; intro a hE
      refine q0 p57_4_4 hE (st_extract rfl rfl) ?_
      clear hE a; intro a hE
      refine q0 p57_4_5 hE (st_assign rfl) ?_
      clear hE a; intro a hE
      refine q0 p57_4_6 hE (st_assign rfl) ?_
      clear hE a; intro a hE
      refine p_nil ?_
      refine x_norm ?_
      refine wp_seq ?_
      refine wp_block ?_
      refine c_reg R57_5_l ?_
      refine q0 p57_5_0 hE (st_move rfl) ?_
      clear hE a; intro a hE
      refine q0 p57_5_1 hE (st_neq (b := true) rfl rfl (by decide)) ?_
      clear hE a; intro a hE
      refine q0 p57_5_2 hE (st_assign rfl) ?_
      clear hE a; intro a hE
      refine p_nil ?_
      refine x_norm ?_
      refine c_cond (t := true) hE rfl ?_
      refine c_reg R57_6_l ?_
      refine q0 p57_6_0 hE (st_move rfl) ?_
      clear hE a; intro a hE
      refine q0 p57_6_1 hE (st_assign rfl) ?_
      clear hE a; intro a hE
      refine p_nil ?_
      refine x_norm ?_
      refine wp_ret ?_
      refine x_retB ?_
      refine x_ret ?_
      refine ret_one (v := Value.int .i64 1) rfl hE (.tmp rfl .nil) ?_
      have hmc : measC (nn : Int) x y m = 1 := if_neg (fun h => hRI h.2)
      have hmf : measF (nn : Int) f x y m = f := if_neg (fun h => hRI h.2)
      exact ⟨es, ck, by rw [hmc], by rw [hmf]; exact hF, B_gm, K_0⟩
  ·
    refine c_reg R57_1_l ?_
    refine q0 p57_1_0 hE (st_move rfl) ?_
    clear hE a; intro a hE
    refine q0 p57_1_1 hE (st_move rfl) ?_
    clear hE a; intro a hE
    refine q0 p57_1_2 hE (st_move rfl) ?_
    clear hE a; intro a hE
    refine p_cons (s_call (xs := [Operand.tmp 12, Operand.tmp 13, Operand.tmp 14]) (args := [Value.pointer (some ⟨g, 0, none⟩), Value.int .i64 x, Value.int .i64 y]) p57_1_3 hE wn_none rfl rfl Try.func53 cl53 (both_no g (nn : Int) x y (Value.map (some gm)) (by simpa using hBO) _ B_g) ?_)
    rintro e w13 ⟨rfl, hk⟩
    replace B_g := kp_blk B_g hk (fun h => h)
    replace B_gm := kp_blk B_gm hk (fun h => h)
    replace K_0 := K_0.then_ hk (fun _ h => h.elim)
    refine ⟨_, rfl, ?_⟩
    clear hE a; intro a hE
    refine q0 p57_1_4 hE (st_assign rfl) ?_
    clear hE a; intro a hE
    refine p_nil ?_
    refine x_norm ?_
    refine c_reg R57_2_l ?_
    refine q0 p57_2_0 hE (st_move rfl) ?_
    clear hE a; intro a hE
    refine q0 p57_2_1 hE (st_neq (b := true) rfl rfl (by decide)) ?_
    clear hE a; intro a hE
    refine p_nil ?_
    refine x_norm ?_
    refine c_cond (t := true) hE rfl ?_
    refine c_reg R57_3_l ?_
    refine q0 p57_3_0 hE (st_move rfl) ?_
    clear hE a; intro a hE
    refine q0 p57_3_1 hE (st_assign rfl) ?_
    clear hE a; intro a hE
    refine p_nil ?_
    refine x_norm ?_
    refine wp_ret ?_
    refine x_ret ?_
    refine ret_one (v := Value.int .i64 1) rfl hE (.tmp rfl .nil) ?_
    have hmc : measC (nn : Int) x y m = 1 := if_neg (fun h => hBO h.1)
    have hmf : measF (nn : Int) f x y m = f := if_neg (fun h => hBO h.1)
    exact ⟨es, ck, by rw [hmc], by rw [hmf]; exact hF, B_gm, K_0⟩
end Go.Proofs.Ytpnpfapdjdcnbaa.Lc
