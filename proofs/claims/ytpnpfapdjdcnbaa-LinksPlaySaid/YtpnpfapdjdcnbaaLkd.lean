/- The document's links: Set, Node, Hops. -/
import Derived.Test.YtpnpfapdjdcnbaaLkh
import Derived.Test.YtpnpfapdjdcnbaaLkm
import Derived.Test.YtpnpfapdjdcnbaaLvl
set_option maxRecDepth 100000
set_option linter.unusedVariables false
set_option linter.unusedSimpArgs false
namespace Go.Proofs.Ytpnpfapdjdcnbaa.Ld
open Go.RowKit Go.Proofs.YtpnpfapdjdcnbaaW.PrintWords Go.Proofs.Ytpnpfapdjdcnbaa.Ds Go.Proofs.Ytpnpfapdjdcnbaa.Lk Go.Proofs.Ytpnpfapdjdcnbaa.Ln Go.Proofs.Ytpnpfapdjdcnbaa.Lh
open Go.Proofs.Ytpnpfapdjdcnbaa.Qu (s_storeO)
open Go.Proofs.Ytpnpfapdjdcnbaa.Pk (Kp)
open Go.Proofs.Ytpnpfapdjdcnbaa.Mp (st_eqlP st_neqP x_normS x_retS x_exitS)
theorem R56_0_l : List.range (regOf Try.f56 0).size = [0, 1, 2, 3, 4, 5, 6, 7, 8, 9, 10, 11, 12, 13, 14, 15, 16, 17] := by kernel_rfl
theorem body56 : Try.f56.body = some (.region 0 (regOf Try.f56 0) true) := by kernel_rfl
theorem ns56_0 : Region.noSelect (regOf Try.f56 0) = true := by kernel_rfl
theorem p56_0_0 : pj (regOf Try.f56 0) 0 = some (some 8, .move (.tmp 0), 67, none) := by kernel_rfl
theorem p56_0_1 : pj (regOf Try.f56 0) 1 = some (some 9, .move (.tmp 1), 3, none) := by kernel_rfl
theorem p56_0_2 : pj (regOf Try.f56 0) 2 = some (some 10, .move (.tmp 2), 3, none) := by kernel_rfl
theorem p56_0_3 : pj (regOf Try.f56 0) 3 = some (some 11, .move (.tmp 0), 67, none) := by kernel_rfl
theorem p56_0_4 : pj (regOf Try.f56 0) 4 = some (some 12, .move (.tmp 2), 3, none) := by kernel_rfl
theorem p56_0_5 : pj (regOf Try.f56 0) 5 = some (some 13, .move (.tmp 1), 3, none) := by kernel_rfl
theorem p56_0_6 : pj (regOf Try.f56 0) 6 = some (some 14, .move (.tmp 3), 3, none) := by kernel_rfl
theorem p56_0_7 : pj (regOf Try.f56 0) 7 = some (some 15, .move (.tmp 3), 3, none) := by kernel_rfl
theorem p56_0_8 : pj (regOf Try.f56 0) 8 = some (some 16, .nilCheck (.tmp 8), 0, none) := by kernel_rfl
theorem p56_0_9 : pj (regOf Try.f56 0) 9 = some (some 17, .fieldAddr 71 (.tmp 16) 1, 0, none) := by kernel_rfl
theorem tS69 : (Try.prog.info? 69).map (·.size) = some 4096 := by kernel_rfl
theorem p56_0_10 : pj (regOf Try.f56 0) 10 = some (some 18, .indexAddr 69 (.tmp 17) (.tmp 9), 0, none) := by kernel_rfl
theorem tS68 : (Try.prog.info? 68).map (·.size) = some 64 := by kernel_rfl
theorem p56_0_11 : pj (regOf Try.f56 0) 11 = some (some 19, .indexAddr 68 (.tmp 18) (.tmp 10), 0, none) := by kernel_rfl
theorem tS3 : (Try.prog.info? 3).map (·.size) = some 1 := by kernel_rfl
theorem p56_0_13 : pj (regOf Try.f56 0) 13 = some (some 20, .nilCheck (.tmp 11), 0, none) := by kernel_rfl
theorem p56_0_14 : pj (regOf Try.f56 0) 14 = some (some 21, .fieldAddr 71 (.tmp 20) 1, 0, none) := by kernel_rfl
theorem p56_0_15 : pj (regOf Try.f56 0) 15 = some (some 22, .indexAddr 69 (.tmp 21) (.tmp 12), 0, none) := by kernel_rfl
theorem p56_0_12 : pj (regOf Try.f56 0) 12 = some (none, .store 3 (.tmp 19) (.tmp 14), 0, none) := by kernel_rfl
theorem p56_0_16 : pj (regOf Try.f56 0) 16 = some (some 23, .indexAddr 68 (.tmp 22) (.tmp 13), 0, none) := by kernel_rfl
theorem p56_0_17 : pj (regOf Try.f56 0) 17 = some (none, .store 3 (.tmp 23) (.tmp 15), 0, none) := by kernel_rfl
set_option maxHeartbeats 4000000 in
theorem rset_any (gd : Nat) (n : Int) (D : Nat → Nat → Int) (p q : Nat) (hp : p < 64) (hq : q < 64) (c : Int) (w : World) (hd : w.heap[gd]? = some (.cells (Lm.cellsD n D) 71 (0, 0))) : Calls Try.prog 56 #[.pointer (some ⟨gd, 0, none⟩), .int .i64 (p : Int), .int .i64 (q : Int), .int .i64 c] w fun e w' => e = .returned (.tuple #[]) ∧ w'.heap[gd]? = some (.cells (Lm.cellsD n (Lm.setD (Lm.setD D p q c) q p c)) 71 (0, 0)) ∧ Kp w w' (fun k => k = gd) := by
  have K_0 := Kp.refl w (fun k => k = gd)
  have B_gd := hd
  refine enter (args := [Value.pointer (some ⟨gd, 0, none⟩), Value.int .i64 (p : Int), Value.int .i64 (q : Int), Value.int .i64 c]) (n := 24) Try.func56 body56 rfl rfl rfl ?_
  intro a hE
  refine c_draw (S := fun W => True) rfl rfl (listed := #[false, false, false, false, false, false, false, false, false, false, false, false, false, false, false, false, false, false]) rfl ?_
  intro w1 hh hk
  replace B_gd := kp_blk B_gd hk (fun h => h)
  replace K_0 := K_0.then_ hk (fun _ h => h.elim)
  clear hh hk
  refine d_take (v := Value.pointer (some ⟨gd, 0, none⟩)) p56_0_0 ns56_0 (by kernel_rfl) (by kernel_rfl) (fun _ _ _ h => h) hE wn_none rfl trivial (fun W hS => (st_move rfl)) rfl ?_
  clear hE a; intro a hE
  refine d_take (v := Value.int .i64 (p : Int)) p56_0_1 ns56_0 (by kernel_rfl) (by kernel_rfl) (fun _ _ _ h => h) hE wn_none rfl trivial (fun W hS => (st_move rfl)) rfl ?_
  clear hE a; intro a hE
  refine d_take (v := Value.int .i64 (q : Int)) p56_0_2 ns56_0 (by kernel_rfl) (by kernel_rfl) (fun _ _ _ h => h) hE wn_none rfl trivial (fun W hS => (st_move rfl)) rfl ?_
  clear hE a; intro a hE
  refine d_take (v := Value.pointer (some ⟨gd, 0, none⟩)) p56_0_3 ns56_0 (by kernel_rfl) (by kernel_rfl) (fun _ _ _ h => h) hE wn_none rfl trivial (fun W hS => (st_move rfl)) rfl ?_
  clear hE a; intro a hE
  refine d_take (v := Value.int .i64 (q : Int)) p56_0_4 ns56_0 (by kernel_rfl) (by kernel_rfl) (fun _ _ _ h => h) hE wn_none rfl trivial (fun W hS => (st_move rfl)) rfl ?_
  clear hE a; intro a hE
  refine d_take (v := Value.int .i64 (p : Int)) p56_0_5 ns56_0 (by kernel_rfl) (by kernel_rfl) (fun _ _ _ h => h) hE wn_none rfl trivial (fun W hS => (st_move rfl)) rfl ?_
  clear hE a; intro a hE
  refine d_take (v := Value.int .i64 c) p56_0_6 ns56_0 (by kernel_rfl) (by kernel_rfl) (fun _ _ _ h => h) hE wn_none rfl trivial (fun W hS => (st_move rfl)) rfl ?_
  clear hE a; intro a hE
  refine d_take (v := Value.int .i64 c) p56_0_7 ns56_0 (by kernel_rfl) (by kernel_rfl) (fun _ _ _ h => h) hE wn_none rfl trivial (fun W hS => (st_move rfl)) rfl ?_
  clear hE a; intro a hE
  refine d_take (v := Value.pointer (some ⟨gd, 0, none⟩)) p56_0_8 ns56_0 (by kernel_rfl) (by kernel_rfl) (fun _ _ _ h => h) hE wn_none rfl trivial (fun W hS => (st_nil rfl)) rfl ?_
  clear hE a; intro a hE
  refine d_take (v := Value.pointer (some ⟨gd, 1, none⟩)) p56_0_9 ns56_0 (by kernel_rfl) (by kernel_rfl) (fun _ _ _ h => h) hE wn_none rfl trivial (fun W hS => (st_fieldAddr Try.underlying71 rfl tS69 rfl rfl)) rfl ?_
  clear hE a; intro a hE
  refine d_take (v := Value.pointer (some ⟨gd, (1 + p * 64), none⟩)) p56_0_10 ns56_0 (by kernel_rfl) (by kernel_rfl) (fun _ _ _ h => h) hE wn_none rfl trivial (fun W hS => (st_indexAddrA (l := 64) (i := p) (o' := 1 + p * 64) Try.underlying69 tS68 rfl rfl (by omega) rfl)) rfl ?_
  clear hE a; intro a hE
  refine d_take (v := Value.pointer (some ⟨gd, ((1 + p * 64) + q), none⟩)) p56_0_11 ns56_0 (by kernel_rfl) (by kernel_rfl) (fun _ _ _ h => h) hE wn_none rfl trivial (fun W hS => (st_indexAddrA (l := 64) (i := q) (o' := (1 + p * 64) + q) Try.underlying68 tS3 rfl rfl (by omega) (by omega))) rfl ?_
  clear hE a; intro a hE
  refine d_take (v := Value.pointer (some ⟨gd, 0, none⟩)) p56_0_13 ns56_0 (by kernel_rfl) (by kernel_rfl) (fun _ _ _ h => h) hE wn_none rfl trivial (fun W hS => (st_nil rfl)) rfl ?_
  clear hE a; intro a hE
  refine d_take (v := Value.pointer (some ⟨gd, 1, none⟩)) p56_0_14 ns56_0 (by kernel_rfl) (by kernel_rfl) (fun _ _ _ h => h) hE wn_none rfl trivial (fun W hS => (st_fieldAddr Try.underlying71 rfl tS69 rfl rfl)) rfl ?_
  clear hE a; intro a hE
  refine d_take (v := Value.pointer (some ⟨gd, (1 + q * 64), none⟩)) p56_0_15 ns56_0 (by kernel_rfl) (by kernel_rfl) (fun _ _ _ h => h) hE wn_none rfl trivial (fun W hS => (st_indexAddrA (l := 64) (i := q) (o' := 1 + q * 64) Try.underlying69 tS68 rfl rfl (by omega) rfl)) rfl ?_
  clear hE a; intro a hE
  refine d_one (by kernel_rfl) rfl (s_store (off := ((1 + p * 64) + q)) (k := 1) (cs' := (Lm.cellsD n (Lm.setD D p q c))) p56_0_12 hE wn_none tS3 rfl rfl rfl rfl B_gd (by rw [Lm.sizeD]; omega) (Lm.storeD (by omega) (by omega)) ?_)
  intro w2 B_gd' hk
  replace K_0 := K_0.then_ hk (fun k h => by rw [show k = gd from h]; exact Or.inl rfl)
  replace B_gd := B_gd'
  clear hk
  refine ⟨trivial, ?_⟩
  refine d_take (v := Value.pointer (some ⟨gd, ((1 + q * 64) + p), none⟩)) p56_0_16 ns56_0 (by kernel_rfl) (by kernel_rfl) (fun _ _ _ h => h) hE wn_none rfl trivial (fun W hS => (st_indexAddrA (l := 64) (i := p) (o' := (1 + q * 64) + p) Try.underlying68 tS3 rfl rfl (by omega) (by omega))) rfl ?_
  clear hE a; intro a hE
  refine d_one (by kernel_rfl) rfl (s_store (off := ((1 + q * 64) + p)) (k := 1) (cs' := (Lm.cellsD n (Lm.setD (Lm.setD D p q c) q p c))) p56_0_17 hE wn_none tS3 rfl rfl rfl rfl B_gd (by rw [Lm.sizeD]; omega) (Lm.storeD (by omega) (by omega)) ?_)
  intro w3 B_gd' hk
  replace K_0 := K_0.then_ hk (fun k h => by rw [show k = gd from h]; exact Or.inl rfl)
  replace B_gd := B_gd'
  clear hk
  refine ⟨trivial, ?_⟩
  refine d_end (by kernel_rfl) ?_
  refine end_of_ret ?_
  refine ret_list (rs := []) (vs := []) rfl hE .nil rfl ?_
  exact ⟨rfl, B_gd, K_0⟩
theorem R38_0_l : List.range (regOf Try.f38 0).size = [0] := by kernel_rfl
theorem R38_1_l : List.range (regOf Try.f38 1).size = [0, 1, 2, 3, 4, 5, 6, 7, 8, 9, 10] := by kernel_rfl
theorem body38 : Try.f38.body = some (.seq (.region 0 (regOf Try.f38 0) false) (.seq (.region 1 (regOf Try.f38 1) false) (.ret))) := by kernel_rfl
theorem p38_0_0 : pj (regOf Try.f38 0) 0 = some (some 4, .assign (.const (.bool false)), 4, none) := by kernel_rfl
theorem p38_1_0 : pj (regOf Try.f38 1) 0 = some (some 5, .move (.tmp 1), 3, none) := by kernel_rfl
theorem p38_1_1 : pj (regOf Try.f38 1) 1 = some (some 6, .binOp .geq 3 (.tmp 5) (.const (.int .i64 0)) 3, 4, none) := by kernel_rfl
theorem p38_1_2 : pj (regOf Try.f38 1) 2 = some (some 7, .move (.tmp 6), 4, none) := by kernel_rfl
theorem p38_1_3 : pj (regOf Try.f38 1) 3 = some (some 8, .move (.tmp 1), 3, some (2, true)) := by kernel_rfl
theorem g38_1_2 : dstOf (regOf Try.f38 1) 2 = some 7 := by kernel_rfl
theorem p38_1_4 : pj (regOf Try.f38 1) 4 = some (some 9, .move (.tmp 0), 67, some (2, true)) := by kernel_rfl
theorem p38_1_5 : pj (regOf Try.f38 1) 5 = some (some 10, .nilCheck (.tmp 9), 0, some (2, true)) := by kernel_rfl
theorem p38_1_6 : pj (regOf Try.f38 1) 6 = some (some 11, .fieldAddr 71 (.tmp 10) 0, 0, some (2, true)) := by kernel_rfl
theorem p38_1_7 : pj (regOf Try.f38 1) 7 = some (some 12, .load 3 (.tmp 11), 3, some (2, true)) := by kernel_rfl
theorem tA3 : (Try.prog.underlying 3).map aggD = some false := by kernel_rfl
theorem p38_1_8 : pj (regOf Try.f38 1) 8 = some (some 13, .binOp .lss 3 (.tmp 8) (.tmp 12) 3, 4, some (2, true)) := by kernel_rfl
theorem p38_1_9 : pj (regOf Try.f38 1) 9 = some (some 14, .pick (.tmp 7) (.tmp 13) (.const (.bool false)), 4, none) := by kernel_rfl
theorem p38_1_10 : pj (regOf Try.f38 1) 10 = some (some 4, .assign (.tmp 14), 4, none) := by kernel_rfl
set_option maxHeartbeats 4000000 in
theorem rnode_any (gd : Nat) (n : Int) (D : Nat → Nat → Int) (x : Int) (b : Bool) (hb : nodeB n x = b) (w : World) (hd : w.heap[gd]? = some (.cells (Lm.cellsD n D) 71 (0, 0))) : Calls Try.prog 38 #[.pointer (some ⟨gd, 0, none⟩), .int .i64 x] w fun e w' => e = .returned (.bool b) ∧ Kp w w' (fun _ => False) := by
  have K_0 := Kp.refl w (fun _ => False)
  have B_gd := hd
  refine enter (args := [Value.pointer (some ⟨gd, 0, none⟩), Value.int .i64 x]) (n := 15) Try.func38 body38 rfl rfl rfl ?_
  intro a hE
  refine c_reg R38_0_l ?_
  refine q0 p38_0_0 hE (st_assign rfl) ?_
  clear hE a; intro a hE
  refine p_nil ?_
  refine x_norm ?_
  rcases Decidable.em (0 ≤ x) with hP1 | hP1
  ·
    rcases Decidable.em (x < n) with hP2 | hP2
    ·
      refine c_reg R38_1_l ?_
      refine q0 p38_1_0 hE (st_move rfl) ?_
      clear hE a; intro a hE
      refine q0 p38_1_1 hE (st_geq (b := true) rfl rfl (decide_eq_true hP1)) ?_
      clear hE a; intro a hE
      refine q0 p38_1_2 hE (st_move rfl) ?_
      clear hE a; intro a hE
      refine p_cons (s_still p38_1_3 hE (wn_some g38_1_2 rfl rfl) rfl (st_move rfl) ?_)
      clear hE a; intro a hE
      refine p_cons (s_still p38_1_4 hE (wn_some g38_1_2 rfl rfl) rfl (st_move rfl) ?_)
      clear hE a; intro a hE
      refine p_cons (s_still p38_1_5 hE (wn_some g38_1_2 rfl rfl) rfl (st_nil rfl) ?_)
      clear hE a; intro a hE
      refine p_cons (s_still p38_1_6 hE (wn_some g38_1_2 rfl rfl) rfl (st_fieldAddr Try.underlying71 rfl tS3 rfl rfl) ?_)
      clear hE a; intro a hE
      refine p_cons (s_still p38_1_7 hE (wn_some g38_1_2 rfl rfl) rfl (st_load1 tA3 rfl ((blk_cell B_gd 0).trans (Lm.c0 _ _))) ?_)
      clear hE a; intro a hE
      refine p_cons (s_still p38_1_8 hE (wn_some g38_1_2 rfl rfl) rfl (st_lss (b := true) rfl rfl (decide_eq_true hP2)) ?_)
      clear hE a; intro a hE
      refine q0 p38_1_9 hE (st_pick rfl rfl) ?_
      clear hE a; intro a hE
      refine q0 p38_1_10 hE (st_assign rfl) ?_
      clear hE a; intro a hE
      refine p_nil ?_
      refine x_norm ?_
      refine wp_ret ?_
      refine ret_one (v := Value.bool true) rfl hE (.tmp rfl .nil) ?_
      exact ⟨by rw [← hb]; unfold nodeB; rw [decide_eq_true ⟨hP1, hP2⟩], K_0⟩
    ·
      refine c_reg R38_1_l ?_
      refine q0 p38_1_0 hE (st_move rfl) ?_
      clear hE a; intro a hE
      refine q0 p38_1_1 hE (st_geq (b := true) rfl rfl (decide_eq_true hP1)) ?_
      clear hE a; intro a hE
      refine q0 p38_1_2 hE (st_move rfl) ?_
      clear hE a; intro a hE
      refine p_cons (s_still p38_1_3 hE (wn_some g38_1_2 rfl rfl) rfl (st_move rfl) ?_)
      clear hE a; intro a hE
      refine p_cons (s_still p38_1_4 hE (wn_some g38_1_2 rfl rfl) rfl (st_move rfl) ?_)
      clear hE a; intro a hE
      refine p_cons (s_still p38_1_5 hE (wn_some g38_1_2 rfl rfl) rfl (st_nil rfl) ?_)
      clear hE a; intro a hE
      refine p_cons (s_still p38_1_6 hE (wn_some g38_1_2 rfl rfl) rfl (st_fieldAddr Try.underlying71 rfl tS3 rfl rfl) ?_)
      clear hE a; intro a hE
      refine p_cons (s_still p38_1_7 hE (wn_some g38_1_2 rfl rfl) rfl (st_load1 tA3 rfl ((blk_cell B_gd 0).trans (Lm.c0 _ _))) ?_)
      clear hE a; intro a hE
      refine p_cons (s_still p38_1_8 hE (wn_some g38_1_2 rfl rfl) rfl (st_lss (b := false) rfl rfl (decide_eq_false hP2)) ?_)
      clear hE a; intro a hE
      refine q0 p38_1_9 hE (st_pick rfl rfl) ?_
      clear hE a; intro a hE
      refine q0 p38_1_10 hE (st_assign rfl) ?_
      clear hE a; intro a hE
      refine p_nil ?_
      refine x_norm ?_
      refine wp_ret ?_
      refine ret_one (v := Value.bool false) rfl hE (.tmp rfl .nil) ?_
      exact ⟨by rw [← hb]; unfold nodeB; rw [decide_eq_false (by omega)], K_0⟩
  ·
    refine c_reg R38_1_l ?_
    refine q0 p38_1_0 hE (st_move rfl) ?_
    clear hE a; intro a hE
    refine q0 p38_1_1 hE (st_geq (b := false) rfl rfl (decide_eq_false hP1)) ?_
    clear hE a; intro a hE
    refine q0 p38_1_2 hE (st_move rfl) ?_
    clear hE a; intro a hE
    refine p_cons (s_skip p38_1_3 hE (wn_some g38_1_2 rfl rfl) rfl ?_)
    clear hE a; intro a hE
    refine p_cons (s_skip p38_1_4 hE (wn_some g38_1_2 rfl rfl) rfl ?_)
    clear hE a; intro a hE
    refine p_cons (s_skip p38_1_5 hE (wn_some g38_1_2 rfl rfl) rfl ?_)
    clear hE a; intro a hE
    refine p_cons (s_skip p38_1_6 hE (wn_some g38_1_2 rfl rfl) rfl ?_)
    clear hE a; intro a hE
    refine p_cons (s_skip p38_1_7 hE (wn_some g38_1_2 rfl rfl) rfl ?_)
    clear hE a; intro a hE
    refine p_cons (s_skip p38_1_8 hE (wn_some g38_1_2 rfl rfl) rfl ?_)
    clear hE a; intro a hE
    refine q0 p38_1_9 hE (st_pick rfl rfl) ?_
    clear hE a; intro a hE
    refine q0 p38_1_10 hE (st_assign rfl) ?_
    clear hE a; intro a hE
    refine p_nil ?_
    refine x_norm ?_
    refine wp_ret ?_
    refine ret_one (v := Value.bool false) rfl hE (.tmp rfl .nil) ?_
    exact ⟨by rw [← hb]; unfold nodeB; rw [decide_eq_false (by omega)], K_0⟩
def Ed2 (n : Nat) (D : Nat → Nat → Int) (a b : Nat) : Prop := b < n ∧ 0 < D a b
theorem R39_0_l : List.range (regOf Try.f39 0).size = [0] := by kernel_rfl
theorem R39_1_l : List.range (regOf Try.f39 1).size = [0, 1, 2, 3, 4, 5] := by kernel_rfl
theorem R39_2_l : List.range (regOf Try.f39 2).size = [0] := by kernel_rfl
theorem R39_3_l : List.range (regOf Try.f39 3).size = [0, 1, 2, 3, 4, 5] := by kernel_rfl
theorem R39_5_l : List.range (regOf Try.f39 5).size = [0, 1, 2, 3] := by kernel_rfl
theorem R39_4_l : List.range (regOf Try.f39 4).size = [0, 1, 2] := by kernel_rfl
theorem R39_6_l : List.range (regOf Try.f39 6).size = [0, 1, 2, 3] := by kernel_rfl
theorem R39_7_l : List.range (regOf Try.f39 7).size = [0] := by kernel_rfl
theorem R39_8_l : List.range (regOf Try.f39 8).size = [0, 1, 2, 3, 4, 5] := by kernel_rfl
theorem R39_10_l : List.range (regOf Try.f39 10).size = [0] := by kernel_rfl
theorem R39_11_l : List.range (regOf Try.f39 11).size = [0, 1, 2, 3, 4, 5] := by kernel_rfl
theorem R39_13_l : List.range (regOf Try.f39 13).size = [0] := by kernel_rfl
theorem R39_14_l : List.range (regOf Try.f39 14).size = [0, 1, 2, 3, 4, 5] := by kernel_rfl
theorem R39_16_l : List.range (regOf Try.f39 16).size = [0, 1, 2, 3, 4, 5, 6, 7, 8, 9, 10, 11, 12, 13, 14, 15, 16, 17, 18, 19, 20, 21, 22, 23] := by kernel_rfl
theorem R39_17_l : List.range (regOf Try.f39 17).size = [0, 1, 2, 3, 4, 5] := by kernel_rfl
theorem R39_15_l : List.range (regOf Try.f39 15).size = [0, 1, 2] := by kernel_rfl
theorem R39_12_l : List.range (regOf Try.f39 12).size = [0, 1, 2] := by kernel_rfl
theorem R39_9_l : List.range (regOf Try.f39 9).size = [0, 1, 2] := by kernel_rfl
theorem R39_18_l : List.range (regOf Try.f39 18).size = [0, 1] := by kernel_rfl
theorem body39 : Try.f39.body = some (.seq (.region 0 (regOf Try.f39 0) false) (.seq (.region 1 (regOf Try.f39 1) false) (.seq (.seq (.region 2 (regOf Try.f39 2) false) (.block 0 (.loop (.seq (.seq (.region 3 (regOf Try.f39 3) false) (.cond (Operand.tmp 20) (.skip) (.exit 0))) (.seq (.block 1 (.region 5 (regOf Try.f39 5) false)) (.region 4 (regOf Try.f39 4) false)))))) (.seq (.region 6 (regOf Try.f39 6) false) (.seq (.seq (.region 7 (regOf Try.f39 7) false) (.block 2 (.loop (.seq (.seq (.region 8 (regOf Try.f39 8) false) (.cond (Operand.tmp 34) (.skip) (.exit 2))) (.seq (.block 3 (.seq (.region 10 (regOf Try.f39 10) false) (.block 4 (.loop (.seq (.seq (.region 11 (regOf Try.f39 11) false) (.cond (Operand.tmp 42) (.skip) (.exit 4))) (.seq (.block 5 (.seq (.region 13 (regOf Try.f39 13) false) (.block 6 (.loop (.seq (.seq (.region 14 (regOf Try.f39 14) false) (.cond (Operand.tmp 50) (.skip) (.exit 6))) (.seq (.block 7 (.seq (.region 16 (regOf Try.f39 16) false) (.cond (Operand.tmp 76) (.region 17 (regOf Try.f39 17) false) (.skip)))) (.region 15 (regOf Try.f39 15) false))))))) (.region 12 (regOf Try.f39 12) false))))))) (.region 9 (regOf Try.f39 9) false)))))) (.seq (.region 18 (regOf Try.f39 18) false) (.ret))))))) := by kernel_rfl
theorem p39_0_0 : pj (regOf Try.f39 0) 0 = some (some 4, .assign (.const (.slice none 0 0)), 52, none) := by kernel_rfl
theorem p39_1_0 : pj (regOf Try.f39 1) 0 = some (some 10, .move (.tmp 0), 67, none) := by kernel_rfl
theorem p39_1_1 : pj (regOf Try.f39 1) 1 = some (some 11, .nilCheck (.tmp 10), 0, none) := by kernel_rfl
theorem p39_1_2 : pj (regOf Try.f39 1) 2 = some (some 12, .fieldAddr 71 (.tmp 11) 0, 0, none) := by kernel_rfl
theorem p39_1_3 : pj (regOf Try.f39 1) 3 = some (some 13, .load 3 (.tmp 12), 3, none) := by kernel_rfl
theorem p39_1_4 : pj (regOf Try.f39 1) 4 = some (some 14, .makeSlice 52 (.tmp 13) (.tmp 13), 52, none) := by kernel_rfl
theorem eD3 : elemD Try.prog 3 = some (1, 1, 8) := by kernel_rfl
theorem tZ3 : (Try.prog.info? 3).bind (·.zero) = some (Value.int .i64 0) := by kernel_rfl
theorem p39_1_5 : pj (regOf Try.f39 1) 5 = some (some 5, .assign (.tmp 14), 52, none) := by kernel_rfl
theorem p39_2_0 : pj (regOf Try.f39 2) 0 = some (some 6, .assign (.const (.int .i64 0)), 3, none) := by kernel_rfl
theorem p39_3_0 : pj (regOf Try.f39 3) 0 = some (some 15, .move (.tmp 6), 3, none) := by kernel_rfl
theorem p39_3_1 : pj (regOf Try.f39 3) 1 = some (some 16, .move (.tmp 0), 67, none) := by kernel_rfl
theorem p39_3_2 : pj (regOf Try.f39 3) 2 = some (some 17, .nilCheck (.tmp 16), 0, none) := by kernel_rfl
theorem p39_3_3 : pj (regOf Try.f39 3) 3 = some (some 18, .fieldAddr 71 (.tmp 17) 0, 0, none) := by kernel_rfl
theorem p39_3_4 : pj (regOf Try.f39 3) 4 = some (some 19, .load 3 (.tmp 18), 3, none) := by kernel_rfl
theorem p39_3_5 : pj (regOf Try.f39 3) 5 = some (some 20, .binOp .lss 3 (.tmp 15) (.tmp 19) 3, 4, none) := by kernel_rfl
theorem p39_5_0 : pj (regOf Try.f39 5) 0 = some (some 23, .move (.tmp 5), 52, none) := by kernel_rfl
theorem p39_5_1 : pj (regOf Try.f39 5) 1 = some (some 24, .move (.tmp 6), 3, none) := by kernel_rfl
theorem p39_5_2 : pj (regOf Try.f39 5) 2 = some (some 25, .indexAddr 52 (.tmp 23) (.tmp 24), 0, none) := by kernel_rfl
theorem p39_5_3 : pj (regOf Try.f39 5) 3 = some (none, .store 3 (.tmp 25) (.const (.int .i64 (-1))), 0, none) := by kernel_rfl
theorem p39_4_0 : pj (regOf Try.f39 4) 0 = some (some 21, .move (.tmp 6), 3, none) := by kernel_rfl
theorem p39_4_1 : pj (regOf Try.f39 4) 1 = some (some 22, .binOp .add 3 (.tmp 21) (.const (.int .i64 1)) 3, 3, none) := by kernel_rfl
theorem p39_4_2 : pj (regOf Try.f39 4) 2 = some (some 6, .assign (.tmp 22), 3, none) := by kernel_rfl
theorem p39_6_0 : pj (regOf Try.f39 6) 0 = some (some 26, .move (.tmp 5), 52, none) := by kernel_rfl
theorem p39_6_1 : pj (regOf Try.f39 6) 1 = some (some 27, .move (.tmp 1), 3, none) := by kernel_rfl
theorem p39_6_2 : pj (regOf Try.f39 6) 2 = some (some 28, .indexAddr 52 (.tmp 26) (.tmp 27), 0, none) := by kernel_rfl
theorem p39_6_3 : pj (regOf Try.f39 6) 3 = some (none, .store 3 (.tmp 28) (.const (.int .i64 0)), 0, none) := by kernel_rfl
theorem p39_7_0 : pj (regOf Try.f39 7) 0 = some (some 7, .assign (.const (.int .i64 0)), 3, none) := by kernel_rfl
theorem p39_8_0 : pj (regOf Try.f39 8) 0 = some (some 29, .move (.tmp 7), 3, none) := by kernel_rfl
theorem p39_8_1 : pj (regOf Try.f39 8) 1 = some (some 30, .move (.tmp 0), 67, none) := by kernel_rfl
theorem p39_8_2 : pj (regOf Try.f39 8) 2 = some (some 31, .nilCheck (.tmp 30), 0, none) := by kernel_rfl
theorem p39_8_3 : pj (regOf Try.f39 8) 3 = some (some 32, .fieldAddr 71 (.tmp 31) 0, 0, none) := by kernel_rfl
theorem p39_8_4 : pj (regOf Try.f39 8) 4 = some (some 33, .load 3 (.tmp 32), 3, none) := by kernel_rfl
theorem p39_8_5 : pj (regOf Try.f39 8) 5 = some (some 34, .binOp .lss 3 (.tmp 29) (.tmp 33) 3, 4, none) := by kernel_rfl
theorem p39_10_0 : pj (regOf Try.f39 10) 0 = some (some 8, .assign (.const (.int .i64 0)), 3, none) := by kernel_rfl
theorem p39_11_0 : pj (regOf Try.f39 11) 0 = some (some 37, .move (.tmp 8), 3, none) := by kernel_rfl
theorem p39_11_1 : pj (regOf Try.f39 11) 1 = some (some 38, .move (.tmp 0), 67, none) := by kernel_rfl
theorem p39_11_2 : pj (regOf Try.f39 11) 2 = some (some 39, .nilCheck (.tmp 38), 0, none) := by kernel_rfl
theorem p39_11_3 : pj (regOf Try.f39 11) 3 = some (some 40, .fieldAddr 71 (.tmp 39) 0, 0, none) := by kernel_rfl
theorem p39_11_4 : pj (regOf Try.f39 11) 4 = some (some 41, .load 3 (.tmp 40), 3, none) := by kernel_rfl
theorem p39_11_5 : pj (regOf Try.f39 11) 5 = some (some 42, .binOp .lss 3 (.tmp 37) (.tmp 41) 3, 4, none) := by kernel_rfl
theorem p39_13_0 : pj (regOf Try.f39 13) 0 = some (some 9, .assign (.const (.int .i64 0)), 3, none) := by kernel_rfl
theorem p39_14_0 : pj (regOf Try.f39 14) 0 = some (some 45, .move (.tmp 9), 3, none) := by kernel_rfl
theorem p39_14_1 : pj (regOf Try.f39 14) 1 = some (some 46, .move (.tmp 0), 67, none) := by kernel_rfl
theorem p39_14_2 : pj (regOf Try.f39 14) 2 = some (some 47, .nilCheck (.tmp 46), 0, none) := by kernel_rfl
theorem p39_14_3 : pj (regOf Try.f39 14) 3 = some (some 48, .fieldAddr 71 (.tmp 47) 0, 0, none) := by kernel_rfl
theorem p39_14_4 : pj (regOf Try.f39 14) 4 = some (some 49, .load 3 (.tmp 48), 3, none) := by kernel_rfl
theorem p39_14_5 : pj (regOf Try.f39 14) 5 = some (some 50, .binOp .lss 3 (.tmp 45) (.tmp 49) 3, 4, none) := by kernel_rfl
theorem p39_16_0 : pj (regOf Try.f39 16) 0 = some (some 53, .move (.tmp 5), 52, none) := by kernel_rfl
theorem p39_16_1 : pj (regOf Try.f39 16) 1 = some (some 54, .move (.tmp 8), 3, none) := by kernel_rfl
theorem p39_16_2 : pj (regOf Try.f39 16) 2 = some (some 55, .indexAddr 52 (.tmp 53) (.tmp 54), 0, none) := by kernel_rfl
theorem p39_16_3 : pj (regOf Try.f39 16) 3 = some (some 56, .load 3 (.tmp 55), 3, none) := by kernel_rfl
theorem p39_16_4 : pj (regOf Try.f39 16) 4 = some (some 57, .move (.tmp 7), 3, none) := by kernel_rfl
theorem p39_16_5 : pj (regOf Try.f39 16) 5 = some (some 58, .binOp .eql 3 (.tmp 56) (.tmp 57) 3, 4, none) := by kernel_rfl
theorem p39_16_6 : pj (regOf Try.f39 16) 6 = some (some 59, .move (.tmp 58), 4, none) := by kernel_rfl
theorem p39_16_7 : pj (regOf Try.f39 16) 7 = some (some 60, .move (.tmp 0), 67, some (6, true)) := by kernel_rfl
theorem g39_16_6 : dstOf (regOf Try.f39 16) 6 = some 59 := by kernel_rfl
theorem p39_16_8 : pj (regOf Try.f39 16) 8 = some (some 61, .move (.tmp 8), 3, some (6, true)) := by kernel_rfl
theorem p39_16_9 : pj (regOf Try.f39 16) 9 = some (some 62, .move (.tmp 9), 3, some (6, true)) := by kernel_rfl
theorem p39_16_10 : pj (regOf Try.f39 16) 10 = some (some 63, .nilCheck (.tmp 60), 0, some (6, true)) := by kernel_rfl
theorem p39_16_11 : pj (regOf Try.f39 16) 11 = some (some 64, .fieldAddr 71 (.tmp 63) 1, 0, some (6, true)) := by kernel_rfl
theorem p39_16_12 : pj (regOf Try.f39 16) 12 = some (some 65, .indexAddr 69 (.tmp 64) (.tmp 61), 0, some (6, true)) := by kernel_rfl
theorem p39_16_13 : pj (regOf Try.f39 16) 13 = some (some 66, .indexAddr 68 (.tmp 65) (.tmp 62), 0, some (6, true)) := by kernel_rfl
theorem p39_16_14 : pj (regOf Try.f39 16) 14 = some (some 67, .load 3 (.tmp 66), 3, some (6, true)) := by kernel_rfl
theorem p39_16_15 : pj (regOf Try.f39 16) 15 = some (some 68, .binOp .gtr 3 (.tmp 67) (.const (.int .i64 0)) 3, 4, some (6, true)) := by kernel_rfl
theorem p39_16_16 : pj (regOf Try.f39 16) 16 = some (some 69, .pick (.tmp 59) (.tmp 68) (.const (.bool false)), 4, none) := by kernel_rfl
theorem p39_16_17 : pj (regOf Try.f39 16) 17 = some (some 70, .move (.tmp 69), 4, none) := by kernel_rfl
theorem p39_16_18 : pj (regOf Try.f39 16) 18 = some (some 71, .move (.tmp 5), 52, some (17, true)) := by kernel_rfl
theorem g39_16_17 : dstOf (regOf Try.f39 16) 17 = some 70 := by kernel_rfl
theorem p39_16_19 : pj (regOf Try.f39 16) 19 = some (some 72, .move (.tmp 9), 3, some (17, true)) := by kernel_rfl
theorem p39_16_20 : pj (regOf Try.f39 16) 20 = some (some 73, .indexAddr 52 (.tmp 71) (.tmp 72), 0, some (17, true)) := by kernel_rfl
theorem p39_16_21 : pj (regOf Try.f39 16) 21 = some (some 74, .load 3 (.tmp 73), 3, some (17, true)) := by kernel_rfl
theorem p39_16_22 : pj (regOf Try.f39 16) 22 = some (some 75, .binOp .lss 3 (.tmp 74) (.const (.int .i64 0)) 3, 4, some (17, true)) := by kernel_rfl
theorem p39_16_23 : pj (regOf Try.f39 16) 23 = some (some 76, .pick (.tmp 70) (.tmp 75) (.const (.bool false)), 4, none) := by kernel_rfl
theorem p39_17_0 : pj (regOf Try.f39 17) 0 = some (some 77, .move (.tmp 5), 52, none) := by kernel_rfl
theorem p39_17_1 : pj (regOf Try.f39 17) 1 = some (some 78, .move (.tmp 9), 3, none) := by kernel_rfl
theorem p39_17_2 : pj (regOf Try.f39 17) 2 = some (some 79, .move (.tmp 7), 3, none) := by kernel_rfl
theorem p39_17_3 : pj (regOf Try.f39 17) 3 = some (some 80, .binOp .add 3 (.tmp 79) (.const (.int .i64 1)) 3, 3, none) := by kernel_rfl
theorem p39_17_4 : pj (regOf Try.f39 17) 4 = some (some 81, .indexAddr 52 (.tmp 77) (.tmp 78), 0, none) := by kernel_rfl
theorem p39_17_5 : pj (regOf Try.f39 17) 5 = some (none, .store 3 (.tmp 81) (.tmp 80), 0, none) := by kernel_rfl
theorem p39_15_0 : pj (regOf Try.f39 15) 0 = some (some 51, .move (.tmp 9), 3, none) := by kernel_rfl
theorem p39_15_1 : pj (regOf Try.f39 15) 1 = some (some 52, .binOp .add 3 (.tmp 51) (.const (.int .i64 1)) 3, 3, none) := by kernel_rfl
theorem p39_15_2 : pj (regOf Try.f39 15) 2 = some (some 9, .assign (.tmp 52), 3, none) := by kernel_rfl
theorem p39_12_0 : pj (regOf Try.f39 12) 0 = some (some 43, .move (.tmp 8), 3, none) := by kernel_rfl
theorem p39_12_1 : pj (regOf Try.f39 12) 1 = some (some 44, .binOp .add 3 (.tmp 43) (.const (.int .i64 1)) 3, 3, none) := by kernel_rfl
theorem p39_12_2 : pj (regOf Try.f39 12) 2 = some (some 8, .assign (.tmp 44), 3, none) := by kernel_rfl
theorem p39_9_0 : pj (regOf Try.f39 9) 0 = some (some 35, .move (.tmp 7), 3, none) := by kernel_rfl
theorem p39_9_1 : pj (regOf Try.f39 9) 1 = some (some 36, .binOp .add 3 (.tmp 35) (.const (.int .i64 1)) 3, 3, none) := by kernel_rfl
theorem p39_9_2 : pj (regOf Try.f39 9) 2 = some (some 7, .assign (.tmp 36), 3, none) := by kernel_rfl
theorem p39_18_0 : pj (regOf Try.f39 18) 0 = some (some 82, .move (.tmp 5), 52, none) := by kernel_rfl
theorem p39_18_1 : pj (regOf Try.f39 18) 1 = some (some 4, .assign (.tmp 82), 52, none) := by kernel_rfl
set_option maxHeartbeats 4000000 in
theorem rhops_any (gd nn x : Nat) (D : Nat → Nat → Int) (hx : x < nn) (hnn : nn ≤ 64) (w : World) (hd : w.heap[gd]? = some (.cells (Lm.cellsD (nn : Int) D) 71 (0, 0))) : Calls Try.prog 39 #[.pointer (some ⟨gd, 0, none⟩), .int .i64 (x : Int)] w fun e w' => ∃ A c hs, e = .returned (.slice A nn c) ∧ nn ≤ c ∧ (∀ hP, Lv.Fit (Ed2 nn D) nn x hP → hs = hP) ∧ (∀ k, OB A k → w.heap.size ≤ k ∧ k < w'.heap.size) ∧ w'.ownsRow w.heap.size 3 1 (.slice A nn c) nn (encs (Value.int .i64) hs) ∧ Kp w w' (fun _ => False) := by
  have K_0 := Kp.refl w (fun _ => False)
  have B_gd := hd
  refine enter (args := [Value.pointer (some ⟨gd, 0, none⟩), Value.int .i64 (x : Int)]) (n := 83) Try.func39 body39 rfl rfl rfl ?_
  intro a hE
  refine c_reg R39_0_l ?_
  refine q0 p39_0_0 hE (st_assign rfl) ?_
  clear hE a; intro a hE
  refine p_nil ?_
  refine x_norm ?_
  refine c_reg R39_1_l ?_
  refine q0 p39_1_0 hE (st_move rfl) ?_
  clear hE a; intro a hE
  refine q0 p39_1_1 hE (st_nil rfl) ?_
  clear hE a; intro a hE
  refine q0 p39_1_2 hE (st_fieldAddr Try.underlying71 rfl tS3 rfl rfl) ?_
  clear hE a; intro a hE
  refine q0 p39_1_3 hE (st_load1 tA3 rfl ((blk_cell B_gd 0).trans (Lm.c0 _ _))) ?_
  clear hE a; intro a hE
  refine p_cons (s_make (s := 1) (q := nn) p39_1_4 hE wn_none rfl Try.underlying52 tZ3 eD3 rfl rfl (by omega) (by omega) rfl ?_)
  clear hE a; intro g1 w2 z3 B_g1 hk a hE
  have n_gd_g1 : gd ≠ g1 := ne_new B_gd z3
  have z_0_g1 := Nat.le_trans K_0.kept.1 z3
  replace B_gd := kp_blk B_gd hk (fun h => h)
  replace K_0 := K_0.then_ hk (fun _ h => h.elim)
  clear hk
  have O_out := own_blk9 (k := .i64) (l := List.replicate nn 0) B_g1 (show w.heap.size ≤ g1 from z_0_g1) (by simp [encs]) (by rw [List.length_replicate]; show nn ≤ maxLen; unfold maxLen; omega)
  rw [List.length_replicate] at O_out
  have Nb_out_gd : ¬ OB (some ⟨g1, 0, none⟩) gd := fun h => by have h := ob_blk.1 h; exact (Ne.symm n_gd_g1) h
  have Z_0_out : ∀ k, OB (some ⟨g1, 0, none⟩) k → (fun _ => False) k ∨ w.heap.size ≤ k := fun k h => by have h := ob_blk.1 h; subst h; exact Or.inr z_0_g1
  refine q0 p39_1_5 hE (st_assign rfl) ?_
  clear hE a; intro a hE
  refine p_nil ?_
  refine x_norm ?_
  refine wp_seq ?_
  refine c_reg R39_2_l ?_
  refine q0 p39_2_0 hE (st_assign rfl) ?_
  clear hE a; intro a hE
  refine p_nil ?_
  refine x_norm ?_
  refine wp_block ?_
  refine c_loop (α := Nat) (fun i a W => ∃ (A_out : Option Addr) (c_out : Nat) (n_out : Nat), En 83 a [(0, Value.pointer (some ⟨gd, 0, none⟩)), (1, Value.int .i64 (x : Int)), (4, Value.slice none 0 0), (5, Value.slice A_out n_out c_out), (6, Value.int .i64 (i : Int))] ∧ i ≤ nn ∧ n_out = nn ∧ W.heap[gd]? = some (.cells (Lm.cellsD (nn : Int) D) 71 (0, 0)) ∧ n_out = (List.replicate i (-1) ++ List.replicate (nn - i) 0).length ∧ W.ownsRow w.heap.size 3 1 (.slice A_out n_out c_out) n_out (encs (Value.int .i64) (List.replicate i (-1) ++ List.replicate (nn - i) 0)) ∧ ¬ OB A_out gd ∧ (∀ k, OB A_out k → (fun _ => False) k ∨ w.heap.size ≤ k) ∧ Kp w W (fun _ => False)) (fun i => nn - i) (0) ?_ ?_
  ·
    exact ⟨some ⟨g1, 0, none⟩, nn, nn, En.sub hE ⟨rfl, rfl, rfl, rfl, rfl, trivial⟩, Nat.zero_le _, rfl, B_gd, by simp, O_out, Nb_out_gd, Z_0_out, K_0⟩
  ·
    clear hE a
    rintro i a w4 ⟨A_out, c_out, n_out, hE, hi9, hno, B_gd, hn_out, O_out, Nb_out_gd, Z_0_out, K_0⟩
    refine wp_seq ?_
    rcases Decidable.em ((i : Int) < (nn : Int)) with hK1 | hK1
    ·
      refine c_reg R39_3_l ?_
      refine q0 p39_3_0 hE (st_move rfl) ?_
      clear hE a; intro a hE
      refine q0 p39_3_1 hE (st_move rfl) ?_
      clear hE a; intro a hE
      refine q0 p39_3_2 hE (st_nil rfl) ?_
      clear hE a; intro a hE
      refine q0 p39_3_3 hE (st_fieldAddr Try.underlying71 rfl tS3 rfl rfl) ?_
      clear hE a; intro a hE
      refine q0 p39_3_4 hE (st_load1 tA3 rfl ((blk_cell B_gd 0).trans (Lm.c0 _ _))) ?_
      clear hE a; intro a hE
      refine q0 p39_3_5 hE (st_lss (b := true) rfl rfl (decide_eq_true hK1)) ?_
      clear hE a; intro a hE
      refine p_nil ?_
      refine x_norm ?_
      refine c_cond (t := true) hE rfl ?_
      refine wp_skip ?_
      refine x_norm ?_
      refine wp_seq ?_
      refine wp_block ?_
      refine c_regL R39_5_l ?_
      refine q0 p39_5_0 hE (st_move rfl) ?_
      clear hE a; intro a hE
      refine q0 p39_5_1 hE (st_move rfl) ?_
      clear hE a; intro a hE
      refine q0 p39_5_2 hE (st_indexAddrC (i := i) Try.underlying52 tS3 (own_told O_out) rfl rfl (by omega)) ?_
      clear hE a; intro a hE
      refine p_cons (s_storeO (j := i) (v := -1) p39_5_3 hE wn_none tS3 rfl rfl O_out (by omega) ?_)
      intro w5 O_out' hk
      replace B_gd := kp_blk B_gd hk Nb_out_gd
      replace K_0 := K_0.then_ hk Z_0_out
      replace O_out := O_out'
      clear hk
      refine p_nil ?_
      refine x_normB ?_
      refine x_norm ?_
      refine c_regL R39_4_l ?_
      refine q0 p39_4_0 hE (st_move rfl) ?_
      clear hE a; intro a hE
      refine q0 p39_4_1 hE (st_add (z := (i : Int) + 1) rfl rfl (wr_i64 _ (by omega) (by omega))) ?_
      clear hE a; intro a hE
      refine q0 p39_4_2 hE (st_assign rfl) ?_
      clear hE a; intro a hE
      refine p_nil ?_
      refine x_norm ?_
      rw [fill nn i (by omega)] at O_out
      exact ⟨i + 1, by omega, A_out, c_out, n_out, En.sub hE ⟨rfl, rfl, rfl, rfl, rfl, trivial⟩, by omega, hno, B_gd, (by simp; omega), O_out, Nb_out_gd, Z_0_out, K_0⟩
    ·
      refine c_reg R39_3_l ?_
      refine q0 p39_3_0 hE (st_move rfl) ?_
      clear hE a; intro a hE
      refine q0 p39_3_1 hE (st_move rfl) ?_
      clear hE a; intro a hE
      refine q0 p39_3_2 hE (st_nil rfl) ?_
      clear hE a; intro a hE
      refine q0 p39_3_3 hE (st_fieldAddr Try.underlying71 rfl tS3 rfl rfl) ?_
      clear hE a; intro a hE
      refine q0 p39_3_4 hE (st_load1 tA3 rfl ((blk_cell B_gd 0).trans (Lm.c0 _ _))) ?_
      clear hE a; intro a hE
      refine q0 p39_3_5 hE (st_lss (b := false) rfl rfl (decide_eq_false hK1)) ?_
      clear hE a; intro a hE
      refine p_nil ?_
      refine x_norm ?_
      refine c_cond (t := false) hE rfl ?_
      refine wp_exit ?_
      refine x_exit ?_
      refine x_exit ?_
      have hin : i = nn := by omega
      rw [hin, Nat.sub_self, List.replicate_zero, List.append_nil, hno] at O_out
      rw [hno] at hE
      have hn_o2 : nn = (List.replicate nn (-1)).length := by simp
      refine x_in ?_
      refine x_norm ?_
      refine c_reg R39_6_l ?_
      refine q0 p39_6_0 hE (st_move rfl) ?_
      clear hE a; intro a hE
      refine q0 p39_6_1 hE (st_move rfl) ?_
      clear hE a; intro a hE
      refine q0 p39_6_2 hE (st_indexAddrC (i := x) Try.underlying52 tS3 (own_told O_out) rfl rfl (by omega)) ?_
      clear hE a; intro a hE
      refine p_cons (s_storeO (j := x) (v := 0) p39_6_3 hE wn_none tS3 rfl rfl O_out (by omega) ?_)
      intro w6 O_out' hk
      replace B_gd := kp_blk B_gd hk Nb_out_gd
      replace K_0 := K_0.then_ hk Z_0_out
      replace O_out := O_out'
      clear hk
      refine p_nil ?_
      refine x_norm ?_
      refine wp_seq ?_
      refine c_reg R39_7_l ?_
      refine q0 p39_7_0 hE (st_assign rfl) ?_
      clear hE a; intro a hE
      refine p_nil ?_
      refine x_norm ?_
      refine wp_block ?_
      have hl0 : ((List.replicate nn (-1)).set x 0).length = nn := by simp
      have hI0 : ∀ hP, Lv.Fit (Ed2 nn D) nn x hP → Lv.St (Ed2 nn D) nn hP ((List.replicate nn (-1)).set x 0) 0 0 0 := fun hP hf => Lv.start hx hf
      refine c_loop (α := Nat) (fun dd a W => ∃ (A_out : Option Addr) (c_out : Nat) (n_out : Nat), ∃ (hs : List Int), En 83 a [(0, Value.pointer (some ⟨gd, 0, none⟩)), (1, Value.int .i64 (x : Int)), (4, Value.slice none 0 0), (5, Value.slice A_out n_out c_out), (6, Value.int .i64 (i : Int)), (20, Value.bool false), (7, Value.int .i64 (dd : Int))] ∧ dd ≤ nn ∧ (∀ hP, Lv.Fit (Ed2 nn D) nn x hP → Lv.St (Ed2 nn D) nn hP hs dd 0 0) ∧ n_out = nn ∧ W.heap[gd]? = some (.cells (Lm.cellsD (nn : Int) D) 71 (0, 0)) ∧ n_out = hs.length ∧ W.ownsRow w.heap.size 3 1 (.slice A_out n_out c_out) n_out (encs (Value.int .i64) hs) ∧ ¬ OB A_out gd ∧ (∀ k, OB A_out k → (fun _ => False) k ∨ w.heap.size ≤ k) ∧ Kp w W (fun _ => False)) (fun dd => nn - dd) (0) ?_ ?_
      ·
        exact ⟨A_out, c_out, nn, ((List.replicate nn (-1)).set x 0), En.sub hE ⟨rfl, rfl, rfl, rfl, rfl, rfl, rfl, trivial⟩, Nat.zero_le _, hI0, rfl, B_gd, hl0.symm, O_out, Nb_out_gd, Z_0_out, K_0⟩
      ·
        clear hE a
        rintro dd a w7 ⟨A_out, c_out, n_out, hs, hE, hd9, hI, hno, B_gd, hn_out, O_out, Nb_out_gd, Z_0_out, K_0⟩
        refine wp_seq ?_
        rcases Decidable.em ((dd : Int) < (nn : Int)) with hK2 | hK2
        ·
          refine c_reg R39_8_l ?_
          refine q0 p39_8_0 hE (st_move rfl) ?_
          clear hE a; intro a hE
          refine q0 p39_8_1 hE (st_move rfl) ?_
          clear hE a; intro a hE
          refine q0 p39_8_2 hE (st_nil rfl) ?_
          clear hE a; intro a hE
          refine q0 p39_8_3 hE (st_fieldAddr Try.underlying71 rfl tS3 rfl rfl) ?_
          clear hE a; intro a hE
          refine q0 p39_8_4 hE (st_load1 tA3 rfl ((blk_cell B_gd 0).trans (Lm.c0 _ _))) ?_
          clear hE a; intro a hE
          refine q0 p39_8_5 hE (st_lss (b := true) rfl rfl (decide_eq_true hK2)) ?_
          clear hE a; intro a hE
          refine p_nil ?_
          refine x_norm ?_
          refine c_cond (t := true) hE rfl ?_
          refine wp_skip ?_
          refine x_norm ?_
          refine wp_seq ?_
          refine wp_block ?_
          refine c_reg R39_10_l ?_
          refine q0 p39_10_0 hE (st_assign rfl) ?_
          clear hE a; intro a hE
          refine p_nil ?_
          refine x_norm ?_
          refine wp_block ?_
          refine c_loop (α := Nat) (fun a9 a W => ∃ (A_out : Option Addr) (c_out : Nat) (n_out : Nat), ∃ (hs2 : List Int), En 83 a [(0, Value.pointer (some ⟨gd, 0, none⟩)), (1, Value.int .i64 (x : Int)), (4, Value.slice none 0 0), (5, Value.slice A_out n_out c_out), (6, Value.int .i64 (i : Int)), (20, Value.bool false), (7, Value.int .i64 (dd : Int)), (34, Value.bool true), (8, Value.int .i64 (a9 : Int))] ∧ a9 ≤ nn ∧ (∀ hP, Lv.Fit (Ed2 nn D) nn x hP → Lv.St (Ed2 nn D) nn hP hs2 dd a9 0) ∧ n_out = nn ∧ W.heap[gd]? = some (.cells (Lm.cellsD (nn : Int) D) 71 (0, 0)) ∧ n_out = hs2.length ∧ W.ownsRow w.heap.size 3 1 (.slice A_out n_out c_out) n_out (encs (Value.int .i64) hs2) ∧ ¬ OB A_out gd ∧ (∀ k, OB A_out k → (fun _ => False) k ∨ w.heap.size ≤ k) ∧ Kp w W (fun _ => False)) (fun a9 => nn - a9) (0) ?_ ?_
          ·
            exact ⟨A_out, c_out, n_out, hs, En.sub hE ⟨rfl, rfl, rfl, rfl, rfl, rfl, rfl, rfl, rfl, trivial⟩, Nat.zero_le _, hI, hno, B_gd, hn_out, O_out, Nb_out_gd, Z_0_out, K_0⟩
          ·
            clear hE a
            rintro a9 a w8 ⟨A_out, c_out, n_out, hs2, hE, ha9, hI2, hno2, B_gd, hn_out, O_out, Nb_out_gd, Z_0_out, K_0⟩
            refine wp_seq ?_
            rcases Decidable.em ((a9 : Int) < (nn : Int)) with hK3 | hK3
            ·
              refine c_reg R39_11_l ?_
              refine q0 p39_11_0 hE (st_move rfl) ?_
              clear hE a; intro a hE
              refine q0 p39_11_1 hE (st_move rfl) ?_
              clear hE a; intro a hE
              refine q0 p39_11_2 hE (st_nil rfl) ?_
              clear hE a; intro a hE
              refine q0 p39_11_3 hE (st_fieldAddr Try.underlying71 rfl tS3 rfl rfl) ?_
              clear hE a; intro a hE
              refine q0 p39_11_4 hE (st_load1 tA3 rfl ((blk_cell B_gd 0).trans (Lm.c0 _ _))) ?_
              clear hE a; intro a hE
              refine q0 p39_11_5 hE (st_lss (b := true) rfl rfl (decide_eq_true hK3)) ?_
              clear hE a; intro a hE
              refine p_nil ?_
              refine x_norm ?_
              refine c_cond (t := true) hE rfl ?_
              refine wp_skip ?_
              refine x_norm ?_
              refine wp_seq ?_
              refine wp_block ?_
              refine c_reg R39_13_l ?_
              refine q0 p39_13_0 hE (st_assign rfl) ?_
              clear hE a; intro a hE
              refine p_nil ?_
              refine x_norm ?_
              refine wp_block ?_
              refine c_loop (α := Nat) (fun b9 a W => ∃ (A_out : Option Addr) (c_out : Nat) (n_out : Nat), ∃ (hs3 : List Int), En 83 a [(0, Value.pointer (some ⟨gd, 0, none⟩)), (1, Value.int .i64 (x : Int)), (4, Value.slice none 0 0), (5, Value.slice A_out n_out c_out), (6, Value.int .i64 (i : Int)), (20, Value.bool false), (7, Value.int .i64 (dd : Int)), (34, Value.bool true), (8, Value.int .i64 (a9 : Int)), (42, Value.bool true), (9, Value.int .i64 (b9 : Int))] ∧ b9 ≤ nn ∧ (∀ hP, Lv.Fit (Ed2 nn D) nn x hP → Lv.St (Ed2 nn D) nn hP hs3 dd a9 b9) ∧ n_out = nn ∧ W.heap[gd]? = some (.cells (Lm.cellsD (nn : Int) D) 71 (0, 0)) ∧ n_out = hs3.length ∧ W.ownsRow w.heap.size 3 1 (.slice A_out n_out c_out) n_out (encs (Value.int .i64) hs3) ∧ ¬ OB A_out gd ∧ (∀ k, OB A_out k → (fun _ => False) k ∨ w.heap.size ≤ k) ∧ Kp w W (fun _ => False)) (fun b9 => nn - b9) (0) ?_ ?_
              ·
                exact ⟨A_out, c_out, n_out, hs2, En.sub hE ⟨rfl, rfl, rfl, rfl, rfl, rfl, rfl, rfl, rfl, rfl, rfl, trivial⟩, Nat.zero_le _, hI2, hno2, B_gd, hn_out, O_out, Nb_out_gd, Z_0_out, K_0⟩
              ·
                clear hE a
                rintro b9 a w9 ⟨A_out, c_out, n_out, hs3, hE, hb9, hI3, hno3, B_gd, hn_out, O_out, Nb_out_gd, Z_0_out, K_0⟩
                refine wp_seq ?_
                rcases Decidable.em ((b9 : Int) < (nn : Int)) with hK4 | hK4
                ·
                  refine c_reg R39_14_l ?_
                  refine q0 p39_14_0 hE (st_move rfl) ?_
                  clear hE a; intro a hE
                  refine q0 p39_14_1 hE (st_move rfl) ?_
                  clear hE a; intro a hE
                  refine q0 p39_14_2 hE (st_nil rfl) ?_
                  clear hE a; intro a hE
                  refine q0 p39_14_3 hE (st_fieldAddr Try.underlying71 rfl tS3 rfl rfl) ?_
                  clear hE a; intro a hE
                  refine q0 p39_14_4 hE (st_load1 tA3 rfl ((blk_cell B_gd 0).trans (Lm.c0 _ _))) ?_
                  clear hE a; intro a hE
                  refine q0 p39_14_5 hE (st_lss (b := true) rfl rfl (decide_eq_true hK4)) ?_
                  clear hE a; intro a hE
                  refine p_nil ?_
                  refine x_norm ?_
                  refine c_cond (t := true) hE rfl ?_
                  refine wp_skip ?_
                  refine x_norm ?_
                  refine wp_seq ?_
                  refine wp_block ?_
                  rcases Decidable.em (rd hs3 (a9 : Int) = (dd : Int)) with hA1 | hA1
                  ·
                    rcases Decidable.em (0 < D a9 b9) with hA2 | hA2
                    ·
                      rcases Decidable.em (rd hs3 (b9 : Int) < 0) with hA3 | hA3
                      ·
                        refine c_reg R39_16_l ?_
                        refine q0 p39_16_0 hE (st_move rfl) ?_
                        clear hE a; intro a hE
                        refine q0 p39_16_1 hE (st_move rfl) ?_
                        clear hE a; intro a hE
                        refine q0 p39_16_2 hE (st_indexAddrC (i := a9) Try.underlying52 tS3 (own_told O_out) rfl rfl (by omega)) ?_
                        clear hE a; intro a hE
                        refine q0 (v := Value.int .i64 (rd hs3 (a9 : Int))) p39_16_3 hE (st_loadC (i := a9) tA3 (own_told O_out) (by omega) rfl) ?_
                        clear hE a; intro a hE
                        refine q0 p39_16_4 hE (st_move rfl) ?_
                        clear hE a; intro a hE
                        refine q0 p39_16_5 hE (st_eql (b := true) rfl rfl (decide_eq_true hA1)) ?_
                        clear hE a; intro a hE
                        refine q0 p39_16_6 hE (st_move rfl) ?_
                        clear hE a; intro a hE
                        refine p_cons (s_still p39_16_7 hE (wn_some g39_16_6 rfl rfl) rfl (st_move rfl) ?_)
                        clear hE a; intro a hE
                        refine p_cons (s_still p39_16_8 hE (wn_some g39_16_6 rfl rfl) rfl (st_move rfl) ?_)
                        clear hE a; intro a hE
                        refine p_cons (s_still p39_16_9 hE (wn_some g39_16_6 rfl rfl) rfl (st_move rfl) ?_)
                        clear hE a; intro a hE
                        refine p_cons (s_still p39_16_10 hE (wn_some g39_16_6 rfl rfl) rfl (st_nil rfl) ?_)
                        clear hE a; intro a hE
                        refine p_cons (s_still p39_16_11 hE (wn_some g39_16_6 rfl rfl) rfl (st_fieldAddr Try.underlying71 rfl tS69 rfl rfl) ?_)
                        clear hE a; intro a hE
                        refine p_cons (s_still p39_16_12 hE (wn_some g39_16_6 rfl rfl) rfl (st_indexAddrA (l := 64) (i := a9) (o' := 1 + a9 * 64) Try.underlying69 tS68 rfl rfl (by omega) rfl) ?_)
                        clear hE a; intro a hE
                        refine p_cons (s_still p39_16_13 hE (wn_some g39_16_6 rfl rfl) rfl (st_indexAddrA (l := 64) (i := b9) (o' := (1 + a9 * 64) + b9) Try.underlying68 tS3 rfl rfl (by omega) (by omega)) ?_)
                        clear hE a; intro a hE
                        refine p_cons (s_still p39_16_14 hE (wn_some g39_16_6 rfl rfl) rfl (st_load1 tA3 rfl ((blk_cell B_gd _).trans (Lm.cD (by omega) (by omega) rfl))) ?_)
                        clear hE a; intro a hE
                        refine p_cons (s_still p39_16_15 hE (wn_some g39_16_6 rfl rfl) rfl (st_gtr (b := true) rfl rfl (decide_eq_true hA2)) ?_)
                        clear hE a; intro a hE
                        refine q0 p39_16_16 hE (st_pick rfl rfl) ?_
                        clear hE a; intro a hE
                        refine q0 p39_16_17 hE (st_move rfl) ?_
                        clear hE a; intro a hE
                        refine p_cons (s_still p39_16_18 hE (wn_some g39_16_17 rfl rfl) rfl (st_move rfl) ?_)
                        clear hE a; intro a hE
                        refine p_cons (s_still p39_16_19 hE (wn_some g39_16_17 rfl rfl) rfl (st_move rfl) ?_)
                        clear hE a; intro a hE
                        refine p_cons (s_still p39_16_20 hE (wn_some g39_16_17 rfl rfl) rfl (st_indexAddrC (i := b9) Try.underlying52 tS3 (own_told O_out) rfl rfl (by omega)) ?_)
                        clear hE a; intro a hE
                        refine p_cons (s_still (v := Value.int .i64 (rd hs3 (b9 : Int))) p39_16_21 hE (wn_some g39_16_17 rfl rfl) rfl (st_loadC (i := b9) tA3 (own_told O_out) (by omega) rfl) ?_)
                        clear hE a; intro a hE
                        refine p_cons (s_still p39_16_22 hE (wn_some g39_16_17 rfl rfl) rfl (st_lss (b := true) rfl rfl (decide_eq_true hA3)) ?_)
                        clear hE a; intro a hE
                        refine q0 p39_16_23 hE (st_pick rfl rfl) ?_
                        clear hE a; intro a hE
                        refine p_nil ?_
                        refine x_norm ?_
                        refine c_cond (t := true) hE rfl ?_
                        refine c_regL R39_17_l ?_
                        refine q0 p39_17_0 hE (st_move rfl) ?_
                        clear hE a; intro a hE
                        refine q0 p39_17_1 hE (st_move rfl) ?_
                        clear hE a; intro a hE
                        refine q0 p39_17_2 hE (st_move rfl) ?_
                        clear hE a; intro a hE
                        refine q0 p39_17_3 hE (st_add (z := (dd : Int) + 1) rfl rfl (wr_i64 _ (by omega) (by omega))) ?_
                        clear hE a; intro a hE
                        refine q0 p39_17_4 hE (st_indexAddrC (i := b9) Try.underlying52 tS3 (own_told O_out) rfl rfl (by omega)) ?_
                        clear hE a; intro a hE
                        refine p_cons (s_storeO (j := b9) (v := (dd : Int) + 1) p39_17_5 hE wn_none tS3 rfl rfl O_out (by omega) ?_)
                        intro w10 O_out' hk
                        replace B_gd := kp_blk B_gd hk Nb_out_gd
                        replace K_0 := K_0.then_ hk Z_0_out
                        replace O_out := O_out'
                        clear hk
                        refine p_nil ?_
                        refine x_normB ?_
                        refine x_norm ?_
                        refine c_regL R39_15_l ?_
                        refine q0 p39_15_0 hE (st_move rfl) ?_
                        clear hE a; intro a hE
                        refine q0 p39_15_1 hE (st_add (z := (b9 : Int) + 1) rfl rfl (wr_i64 _ (by omega) (by omega))) ?_
                        clear hE a; intro a hE
                        refine q0 p39_15_2 hE (st_assign rfl) ?_
                        clear hE a; intro a hE
                        refine p_nil ?_
                        refine x_norm ?_
                        have hI9 : ∀ hP, Lv.Fit (Ed2 nn D) nn x hP → Lv.St (Ed2 nn D) nn hP (hs3.set b9 ((dd : Int) + 1)) dd a9 (b9 + 1) := fun hP hf => Lv.take hf (hI3 hP hf) (by omega) (by omega) (by rw [← rd_at]; exact hA1) ⟨by omega, hA2⟩ (by rw [← rd_at]; exact hA3)
                        have hln9 : n_out = (hs3.set b9 ((dd : Int) + 1)).length := by rw [List.length_set]; exact hn_out
                        have hno9 := hno3
                        exact ⟨b9 + 1, by omega, A_out, c_out, n_out, (hs3.set b9 ((dd : Int) + 1)), En.sub hE ⟨rfl, rfl, rfl, rfl, rfl, rfl, rfl, rfl, rfl, rfl, rfl, trivial⟩, by omega, hI9, hno9, B_gd, hln9, O_out, Nb_out_gd, Z_0_out, K_0⟩
                      ·
                        refine c_reg R39_16_l ?_
                        refine q0 p39_16_0 hE (st_move rfl) ?_
                        clear hE a; intro a hE
                        refine q0 p39_16_1 hE (st_move rfl) ?_
                        clear hE a; intro a hE
                        refine q0 p39_16_2 hE (st_indexAddrC (i := a9) Try.underlying52 tS3 (own_told O_out) rfl rfl (by omega)) ?_
                        clear hE a; intro a hE
                        refine q0 (v := Value.int .i64 (rd hs3 (a9 : Int))) p39_16_3 hE (st_loadC (i := a9) tA3 (own_told O_out) (by omega) rfl) ?_
                        clear hE a; intro a hE
                        refine q0 p39_16_4 hE (st_move rfl) ?_
                        clear hE a; intro a hE
                        refine q0 p39_16_5 hE (st_eql (b := true) rfl rfl (decide_eq_true hA1)) ?_
                        clear hE a; intro a hE
                        refine q0 p39_16_6 hE (st_move rfl) ?_
                        clear hE a; intro a hE
                        refine p_cons (s_still p39_16_7 hE (wn_some g39_16_6 rfl rfl) rfl (st_move rfl) ?_)
                        clear hE a; intro a hE
                        refine p_cons (s_still p39_16_8 hE (wn_some g39_16_6 rfl rfl) rfl (st_move rfl) ?_)
                        clear hE a; intro a hE
                        refine p_cons (s_still p39_16_9 hE (wn_some g39_16_6 rfl rfl) rfl (st_move rfl) ?_)
                        clear hE a; intro a hE
                        refine p_cons (s_still p39_16_10 hE (wn_some g39_16_6 rfl rfl) rfl (st_nil rfl) ?_)
                        clear hE a; intro a hE
                        refine p_cons (s_still p39_16_11 hE (wn_some g39_16_6 rfl rfl) rfl (st_fieldAddr Try.underlying71 rfl tS69 rfl rfl) ?_)
                        clear hE a; intro a hE
                        refine p_cons (s_still p39_16_12 hE (wn_some g39_16_6 rfl rfl) rfl (st_indexAddrA (l := 64) (i := a9) (o' := 1 + a9 * 64) Try.underlying69 tS68 rfl rfl (by omega) rfl) ?_)
                        clear hE a; intro a hE
                        refine p_cons (s_still p39_16_13 hE (wn_some g39_16_6 rfl rfl) rfl (st_indexAddrA (l := 64) (i := b9) (o' := (1 + a9 * 64) + b9) Try.underlying68 tS3 rfl rfl (by omega) (by omega)) ?_)
                        clear hE a; intro a hE
                        refine p_cons (s_still p39_16_14 hE (wn_some g39_16_6 rfl rfl) rfl (st_load1 tA3 rfl ((blk_cell B_gd _).trans (Lm.cD (by omega) (by omega) rfl))) ?_)
                        clear hE a; intro a hE
                        refine p_cons (s_still p39_16_15 hE (wn_some g39_16_6 rfl rfl) rfl (st_gtr (b := true) rfl rfl (decide_eq_true hA2)) ?_)
                        clear hE a; intro a hE
                        refine q0 p39_16_16 hE (st_pick rfl rfl) ?_
                        clear hE a; intro a hE
                        refine q0 p39_16_17 hE (st_move rfl) ?_
                        clear hE a; intro a hE
                        refine p_cons (s_still p39_16_18 hE (wn_some g39_16_17 rfl rfl) rfl (st_move rfl) ?_)
                        clear hE a; intro a hE
                        refine p_cons (s_still p39_16_19 hE (wn_some g39_16_17 rfl rfl) rfl (st_move rfl) ?_)
                        clear hE a; intro a hE
                        refine p_cons (s_still p39_16_20 hE (wn_some g39_16_17 rfl rfl) rfl (st_indexAddrC (i := b9) Try.underlying52 tS3 (own_told O_out) rfl rfl (by omega)) ?_)
                        clear hE a; intro a hE
                        refine p_cons (s_still (v := Value.int .i64 (rd hs3 (b9 : Int))) p39_16_21 hE (wn_some g39_16_17 rfl rfl) rfl (st_loadC (i := b9) tA3 (own_told O_out) (by omega) rfl) ?_)
                        clear hE a; intro a hE
                        refine p_cons (s_still p39_16_22 hE (wn_some g39_16_17 rfl rfl) rfl (st_lss (b := false) rfl rfl (decide_eq_false hA3)) ?_)
                        clear hE a; intro a hE
                        refine q0 p39_16_23 hE (st_pick rfl rfl) ?_
                        clear hE a; intro a hE
                        refine p_nil ?_
                        refine x_norm ?_
                        refine c_cond (t := false) hE rfl ?_
                        refine wp_skip ?_
                        refine x_normB ?_
                        refine x_norm ?_
                        refine c_regL R39_15_l ?_
                        refine q0 p39_15_0 hE (st_move rfl) ?_
                        clear hE a; intro a hE
                        refine q0 p39_15_1 hE (st_add (z := (b9 : Int) + 1) rfl rfl (wr_i64 _ (by omega) (by omega))) ?_
                        clear hE a; intro a hE
                        refine q0 p39_15_2 hE (st_assign rfl) ?_
                        clear hE a; intro a hE
                        refine p_nil ?_
                        refine x_norm ?_
                        have hI9 : ∀ hP, Lv.Fit (Ed2 nn D) nn x hP → Lv.St (Ed2 nn D) nn hP hs3 dd a9 (b9 + 1) := fun hP hf => Lv.skip (hI3 hP hf) (by omega) (by omega) (fun z => hA3 (by rw [rd_at]; exact z.2.2))
                        have hln9 := hn_out
                        have hno9 := hno3
                        exact ⟨b9 + 1, by omega, A_out, c_out, n_out, hs3, En.sub hE ⟨rfl, rfl, rfl, rfl, rfl, rfl, rfl, rfl, rfl, rfl, rfl, trivial⟩, by omega, hI9, hno9, B_gd, hln9, O_out, Nb_out_gd, Z_0_out, K_0⟩
                    ·
                      refine c_reg R39_16_l ?_
                      refine q0 p39_16_0 hE (st_move rfl) ?_
                      clear hE a; intro a hE
                      refine q0 p39_16_1 hE (st_move rfl) ?_
                      clear hE a; intro a hE
                      refine q0 p39_16_2 hE (st_indexAddrC (i := a9) Try.underlying52 tS3 (own_told O_out) rfl rfl (by omega)) ?_
                      clear hE a; intro a hE
                      refine q0 (v := Value.int .i64 (rd hs3 (a9 : Int))) p39_16_3 hE (st_loadC (i := a9) tA3 (own_told O_out) (by omega) rfl) ?_
                      clear hE a; intro a hE
                      refine q0 p39_16_4 hE (st_move rfl) ?_
                      clear hE a; intro a hE
                      refine q0 p39_16_5 hE (st_eql (b := true) rfl rfl (decide_eq_true hA1)) ?_
                      clear hE a; intro a hE
                      refine q0 p39_16_6 hE (st_move rfl) ?_
                      clear hE a; intro a hE
                      refine p_cons (s_still p39_16_7 hE (wn_some g39_16_6 rfl rfl) rfl (st_move rfl) ?_)
                      clear hE a; intro a hE
                      refine p_cons (s_still p39_16_8 hE (wn_some g39_16_6 rfl rfl) rfl (st_move rfl) ?_)
                      clear hE a; intro a hE
                      refine p_cons (s_still p39_16_9 hE (wn_some g39_16_6 rfl rfl) rfl (st_move rfl) ?_)
                      clear hE a; intro a hE
                      refine p_cons (s_still p39_16_10 hE (wn_some g39_16_6 rfl rfl) rfl (st_nil rfl) ?_)
                      clear hE a; intro a hE
                      refine p_cons (s_still p39_16_11 hE (wn_some g39_16_6 rfl rfl) rfl (st_fieldAddr Try.underlying71 rfl tS69 rfl rfl) ?_)
                      clear hE a; intro a hE
                      refine p_cons (s_still p39_16_12 hE (wn_some g39_16_6 rfl rfl) rfl (st_indexAddrA (l := 64) (i := a9) (o' := 1 + a9 * 64) Try.underlying69 tS68 rfl rfl (by omega) rfl) ?_)
                      clear hE a; intro a hE
                      refine p_cons (s_still p39_16_13 hE (wn_some g39_16_6 rfl rfl) rfl (st_indexAddrA (l := 64) (i := b9) (o' := (1 + a9 * 64) + b9) Try.underlying68 tS3 rfl rfl (by omega) (by omega)) ?_)
                      clear hE a; intro a hE
                      refine p_cons (s_still p39_16_14 hE (wn_some g39_16_6 rfl rfl) rfl (st_load1 tA3 rfl ((blk_cell B_gd _).trans (Lm.cD (by omega) (by omega) rfl))) ?_)
                      clear hE a; intro a hE
                      refine p_cons (s_still p39_16_15 hE (wn_some g39_16_6 rfl rfl) rfl (st_gtr (b := false) rfl rfl (decide_eq_false hA2)) ?_)
                      clear hE a; intro a hE
                      refine q0 p39_16_16 hE (st_pick rfl rfl) ?_
                      clear hE a; intro a hE
                      refine q0 p39_16_17 hE (st_move rfl) ?_
                      clear hE a; intro a hE
                      refine p_cons (s_skip p39_16_18 hE (wn_some g39_16_17 rfl rfl) rfl ?_)
                      clear hE a; intro a hE
                      refine p_cons (s_skip p39_16_19 hE (wn_some g39_16_17 rfl rfl) rfl ?_)
                      clear hE a; intro a hE
                      refine p_cons (s_skip p39_16_20 hE (wn_some g39_16_17 rfl rfl) rfl ?_)
                      clear hE a; intro a hE
                      refine p_cons (s_skip p39_16_21 hE (wn_some g39_16_17 rfl rfl) rfl ?_)
                      clear hE a; intro a hE
                      refine p_cons (s_skip p39_16_22 hE (wn_some g39_16_17 rfl rfl) rfl ?_)
                      clear hE a; intro a hE
                      refine q0 p39_16_23 hE (st_pick rfl rfl) ?_
                      clear hE a; intro a hE
                      refine p_nil ?_
                      refine x_norm ?_
                      refine c_cond (t := false) hE rfl ?_
                      refine wp_skip ?_
                      refine x_normB ?_
                      refine x_norm ?_
                      refine c_regL R39_15_l ?_
                      refine q0 p39_15_0 hE (st_move rfl) ?_
                      clear hE a; intro a hE
                      refine q0 p39_15_1 hE (st_add (z := (b9 : Int) + 1) rfl rfl (wr_i64 _ (by omega) (by omega))) ?_
                      clear hE a; intro a hE
                      refine q0 p39_15_2 hE (st_assign rfl) ?_
                      clear hE a; intro a hE
                      refine p_nil ?_
                      refine x_norm ?_
                      have hI9 : ∀ hP, Lv.Fit (Ed2 nn D) nn x hP → Lv.St (Ed2 nn D) nn hP hs3 dd a9 (b9 + 1) := fun hP hf => Lv.skip (hI3 hP hf) (by omega) (by omega) (fun z => hA2 z.2.1.2)
                      have hln9 := hn_out
                      have hno9 := hno3
                      exact ⟨b9 + 1, by omega, A_out, c_out, n_out, hs3, En.sub hE ⟨rfl, rfl, rfl, rfl, rfl, rfl, rfl, rfl, rfl, rfl, rfl, trivial⟩, by omega, hI9, hno9, B_gd, hln9, O_out, Nb_out_gd, Z_0_out, K_0⟩
                  ·
                    refine c_reg R39_16_l ?_
                    refine q0 p39_16_0 hE (st_move rfl) ?_
                    clear hE a; intro a hE
                    refine q0 p39_16_1 hE (st_move rfl) ?_
                    clear hE a; intro a hE
                    refine q0 p39_16_2 hE (st_indexAddrC (i := a9) Try.underlying52 tS3 (own_told O_out) rfl rfl (by omega)) ?_
                    clear hE a; intro a hE
                    refine q0 (v := Value.int .i64 (rd hs3 (a9 : Int))) p39_16_3 hE (st_loadC (i := a9) tA3 (own_told O_out) (by omega) rfl) ?_
                    clear hE a; intro a hE
                    refine q0 p39_16_4 hE (st_move rfl) ?_
                    clear hE a; intro a hE
                    refine q0 p39_16_5 hE (st_eql (b := false) rfl rfl (decide_eq_false hA1)) ?_
                    clear hE a; intro a hE
                    refine q0 p39_16_6 hE (st_move rfl) ?_
                    clear hE a; intro a hE
                    refine p_cons (s_skip p39_16_7 hE (wn_some g39_16_6 rfl rfl) rfl ?_)
                    clear hE a; intro a hE
                    refine p_cons (s_skip p39_16_8 hE (wn_some g39_16_6 rfl rfl) rfl ?_)
                    clear hE a; intro a hE
                    refine p_cons (s_skip p39_16_9 hE (wn_some g39_16_6 rfl rfl) rfl ?_)
                    clear hE a; intro a hE
                    refine p_cons (s_skip p39_16_10 hE (wn_some g39_16_6 rfl rfl) rfl ?_)
                    clear hE a; intro a hE
                    refine p_cons (s_skip p39_16_11 hE (wn_some g39_16_6 rfl rfl) rfl ?_)
                    clear hE a; intro a hE
                    refine p_cons (s_skip p39_16_12 hE (wn_some g39_16_6 rfl rfl) rfl ?_)
                    clear hE a; intro a hE
                    refine p_cons (s_skip p39_16_13 hE (wn_some g39_16_6 rfl rfl) rfl ?_)
                    clear hE a; intro a hE
                    refine p_cons (s_skip p39_16_14 hE (wn_some g39_16_6 rfl rfl) rfl ?_)
                    clear hE a; intro a hE
                    refine p_cons (s_skip p39_16_15 hE (wn_some g39_16_6 rfl rfl) rfl ?_)
                    clear hE a; intro a hE
                    refine q0 p39_16_16 hE (st_pick rfl rfl) ?_
                    clear hE a; intro a hE
                    refine q0 p39_16_17 hE (st_move rfl) ?_
                    clear hE a; intro a hE
                    refine p_cons (s_skip p39_16_18 hE (wn_some g39_16_17 rfl rfl) rfl ?_)
                    clear hE a; intro a hE
                    refine p_cons (s_skip p39_16_19 hE (wn_some g39_16_17 rfl rfl) rfl ?_)
                    clear hE a; intro a hE
                    refine p_cons (s_skip p39_16_20 hE (wn_some g39_16_17 rfl rfl) rfl ?_)
                    clear hE a; intro a hE
                    refine p_cons (s_skip p39_16_21 hE (wn_some g39_16_17 rfl rfl) rfl ?_)
                    clear hE a; intro a hE
                    refine p_cons (s_skip p39_16_22 hE (wn_some g39_16_17 rfl rfl) rfl ?_)
                    clear hE a; intro a hE
                    refine q0 p39_16_23 hE (st_pick rfl rfl) ?_
                    clear hE a; intro a hE
                    refine p_nil ?_
                    refine x_norm ?_
                    refine c_cond (t := false) hE rfl ?_
                    refine wp_skip ?_
                    refine x_normB ?_
                    refine x_norm ?_
                    refine c_regL R39_15_l ?_
                    refine q0 p39_15_0 hE (st_move rfl) ?_
                    clear hE a; intro a hE
                    refine q0 p39_15_1 hE (st_add (z := (b9 : Int) + 1) rfl rfl (wr_i64 _ (by omega) (by omega))) ?_
                    clear hE a; intro a hE
                    refine q0 p39_15_2 hE (st_assign rfl) ?_
                    clear hE a; intro a hE
                    refine p_nil ?_
                    refine x_norm ?_
                    have hI9 : ∀ hP, Lv.Fit (Ed2 nn D) nn x hP → Lv.St (Ed2 nn D) nn hP hs3 dd a9 (b9 + 1) := fun hP hf => Lv.skip (hI3 hP hf) (by omega) (by omega) (fun z => hA1 (by rw [rd_at]; exact z.1))
                    have hln9 := hn_out
                    have hno9 := hno3
                    exact ⟨b9 + 1, by omega, A_out, c_out, n_out, hs3, En.sub hE ⟨rfl, rfl, rfl, rfl, rfl, rfl, rfl, rfl, rfl, rfl, rfl, trivial⟩, by omega, hI9, hno9, B_gd, hln9, O_out, Nb_out_gd, Z_0_out, K_0⟩
                ·
                  refine c_reg R39_14_l ?_
                  refine q0 p39_14_0 hE (st_move rfl) ?_
                  clear hE a; intro a hE
                  refine q0 p39_14_1 hE (st_move rfl) ?_
                  clear hE a; intro a hE
                  refine q0 p39_14_2 hE (st_nil rfl) ?_
                  clear hE a; intro a hE
                  refine q0 p39_14_3 hE (st_fieldAddr Try.underlying71 rfl tS3 rfl rfl) ?_
                  clear hE a; intro a hE
                  refine q0 p39_14_4 hE (st_load1 tA3 rfl ((blk_cell B_gd 0).trans (Lm.c0 _ _))) ?_
                  clear hE a; intro a hE
                  refine q0 p39_14_5 hE (st_lss (b := false) rfl rfl (decide_eq_false hK4)) ?_
                  clear hE a; intro a hE
                  refine p_nil ?_
                  refine x_norm ?_
                  refine c_cond (t := false) hE rfl ?_
                  refine wp_exit ?_
                  refine x_exit ?_
                  refine x_exit ?_
                  have hbn9 : b9 = nn := by omega
                  rw [hbn9] at hI3
                  refine x_in ?_
                  refine x_normB ?_
                  refine x_norm ?_
                  refine c_regL R39_12_l ?_
                  refine q0 p39_12_0 hE (st_move rfl) ?_
                  clear hE a; intro a hE
                  refine q0 p39_12_1 hE (st_add (z := (a9 : Int) + 1) rfl rfl (wr_i64 _ (by omega) (by omega))) ?_
                  clear hE a; intro a hE
                  refine q0 p39_12_2 hE (st_assign rfl) ?_
                  clear hE a; intro a hE
                  refine p_nil ?_
                  refine x_norm ?_
                  have hI9 : ∀ hP, Lv.Fit (Ed2 nn D) nn x hP → Lv.St (Ed2 nn D) nn hP hs3 dd (a9 + 1) 0 := fun hP hf => Lv.row (hI3 hP hf)
                  have hno9 := hno3
                  have hln9 := hn_out
                  exact ⟨a9 + 1, by omega, A_out, c_out, n_out, hs3, En.sub hE ⟨rfl, rfl, rfl, rfl, rfl, rfl, rfl, rfl, rfl, trivial⟩, by omega, hI9, hno9, B_gd, hln9, O_out, Nb_out_gd, Z_0_out, K_0⟩
            ·
              refine c_reg R39_11_l ?_
              refine q0 p39_11_0 hE (st_move rfl) ?_
              clear hE a; intro a hE
              refine q0 p39_11_1 hE (st_move rfl) ?_
              clear hE a; intro a hE
              refine q0 p39_11_2 hE (st_nil rfl) ?_
              clear hE a; intro a hE
              refine q0 p39_11_3 hE (st_fieldAddr Try.underlying71 rfl tS3 rfl rfl) ?_
              clear hE a; intro a hE
              refine q0 p39_11_4 hE (st_load1 tA3 rfl ((blk_cell B_gd 0).trans (Lm.c0 _ _))) ?_
              clear hE a; intro a hE
              refine q0 p39_11_5 hE (st_lss (b := false) rfl rfl (decide_eq_false hK3)) ?_
              clear hE a; intro a hE
              refine p_nil ?_
              refine x_norm ?_
              refine c_cond (t := false) hE rfl ?_
              refine wp_exit ?_
              refine x_exit ?_
              refine x_exit ?_
              have han9 : a9 = nn := by omega
              rw [han9] at hI2
              refine x_in ?_
              refine x_normB ?_
              refine x_norm ?_
              refine c_regL R39_9_l ?_
              refine q0 p39_9_0 hE (st_move rfl) ?_
              clear hE a; intro a hE
              refine q0 p39_9_1 hE (st_add (z := (dd : Int) + 1) rfl rfl (wr_i64 _ (by omega) (by omega))) ?_
              clear hE a; intro a hE
              refine q0 p39_9_2 hE (st_assign rfl) ?_
              clear hE a; intro a hE
              refine p_nil ?_
              refine x_norm ?_
              have hI9 : ∀ hP, Lv.Fit (Ed2 nn D) nn x hP → Lv.St (Ed2 nn D) nn hP hs2 (dd + 1) 0 0 := fun hP hf => Lv.level (fun a b h => h.1) hx hf (hI2 hP hf)
              have hno9 := hno2
              have hln9 := hn_out
              exact ⟨dd + 1, by omega, A_out, c_out, n_out, hs2, En.sub hE ⟨rfl, rfl, rfl, rfl, rfl, rfl, rfl, trivial⟩, by omega, hI9, hno9, B_gd, hln9, O_out, Nb_out_gd, Z_0_out, K_0⟩
        ·
          refine c_reg R39_8_l ?_
          refine q0 p39_8_0 hE (st_move rfl) ?_
          clear hE a; intro a hE
          refine q0 p39_8_1 hE (st_move rfl) ?_
          clear hE a; intro a hE
          refine q0 p39_8_2 hE (st_nil rfl) ?_
          clear hE a; intro a hE
          refine q0 p39_8_3 hE (st_fieldAddr Try.underlying71 rfl tS3 rfl rfl) ?_
          clear hE a; intro a hE
          refine q0 p39_8_4 hE (st_load1 tA3 rfl ((blk_cell B_gd 0).trans (Lm.c0 _ _))) ?_
          clear hE a; intro a hE
          refine q0 p39_8_5 hE (st_lss (b := false) rfl rfl (decide_eq_false hK2)) ?_
          clear hE a; intro a hE
          refine p_nil ?_
          refine x_norm ?_
          refine c_cond (t := false) hE rfl ?_
          refine wp_exit ?_
          refine x_exit ?_
          refine x_exit ?_
          refine x_in ?_
          refine x_norm ?_
          refine c_reg R39_18_l ?_
          refine q0 p39_18_0 hE (st_move rfl) ?_
          clear hE a; intro a hE
          refine q0 p39_18_1 hE (st_assign rfl) ?_
          clear hE a; intro a hE
          refine p_nil ?_
          refine x_norm ?_
          refine wp_ret ?_
          refine ret_one (v := Value.slice A_out n_out c_out) rfl hE (.tmp rfl .nil) ?_
          have hdn9 : dd = nn := by omega
          rw [hdn9] at hI
          rw [hno] at O_out
          exact ⟨A_out, c_out, hs, by rw [hno], (own_caps O_out).1, fun hP hf => Lv.fin hf (hI hP hf), fun k hk => own_ob O_out hk, O_out, K_0⟩
end Go.Proofs.Ytpnpfapdjdcnbaa.Ld
