/- Layer 21: where ranks fall nobody loops. -/
import Derived.Test.YtnmlckaeheiodaaDoorRub
import Derived.Test.YtnmlckaeheiodaaDoorMso
set_option maxRecDepth 100000
set_option linter.unusedVariables false
set_option linter.unusedSimpArgs false
namespace Go.Proofs.YtnmlckaeheiodaaDoor.Rl
open Go.RowKit Go.Proofs.YtnmlckaeheiodaaDoorW.PrintWords Go.Proofs.YtnmlckaeheiodaaDoor.Ds Go.Proofs.YtnmlckaeheiodaaDoor.Lol Go.Proofs.YtnmlckaeheiodaaDoor.Ra Go.Proofs.YtnmlckaeheiodaaDoor.Rd19 Go.Proofs.YtnmlckaeheiodaaDoor.Rg Go.Proofs.YtnmlckaeheiodaaDoor.Rt Go.Proofs.YtnmlckaeheiodaaDoor.Ru Go.Proofs.YtnmlckaeheiodaaDoor.Rw
open Go.Proofs.YtnmlckaeheiodaaDoor.Pk (Kp)
open Go.Proofs.YtnmlckaeheiodaaDoor.Mi (st_eqlP x_retS MapI getI putI)
/-- From each view that is no root's a view is reached whose measure is less. -/
def Falls (l : List (Int × V5)) (cnt : Int → Nat) : Prop := ∀ n v, getI l n = some v → cnt n ≤ 12 ∧ (v.2.2.1 = true ∨ ∃ u, getI l v.2.1 = some u ∧ cnt v.2.1 < cnt n)
theorem key_there {enc : V5 → Value} {es : Array MapEntry} {ck : Nat} {l : List (Int × V5)} (h : MapI enc es ck l) {j : Nat} (hj : j < l.length) : ∃ v, getI l (rd (Ms.ks l) (j : Int)) = some v := by
 have h1 : rd (Ms.ks l) (j : Int) ∈ Ms.ks l := by
  have hj2 : j < (Ms.ks l).length := by rw [Ms.ks_len]; exact hj
  have : (Ms.ks l)[j]? = some (rd (Ms.ks l) (j : Int)) := by simp [rd, hj2]
  exact List.mem_of_getElem? this
 obtain ⟨v, hv⟩ := Ms.ks_mem.1 h1
 exact ⟨v, Mi.getI_of_mem h.nodup hv⟩
theorem R14_0_l : List.range (regOf Tryd.f14 0).size = [0] := by kernel_rfl
theorem R14_1_l : List.range (regOf Tryd.f14 1).size = [0] := by kernel_rfl
theorem R14_2_l : List.range (regOf Tryd.f14 2).size = [0, 1, 2, 3, 4] := by kernel_rfl
theorem R14_3_l : List.range (regOf Tryd.f14 3).size = [0] := by kernel_rfl
theorem R14_4_l : List.range (regOf Tryd.f14 4).size = [0, 1, 2] := by kernel_rfl
theorem R14_5_l : List.range (regOf Tryd.f14 5).size = [0, 1] := by kernel_rfl
theorem R14_6_l : List.range (regOf Tryd.f14 6).size = [0] := by kernel_rfl
theorem R14_8_l : List.range (regOf Tryd.f14 8).size = [0, 1, 2, 3, 4, 5, 6, 7, 8] := by kernel_rfl
theorem R14_9_l : List.range (regOf Tryd.f14 9).size = [0, 1, 2, 3, 4] := by kernel_rfl
theorem R14_10_l : List.range (regOf Tryd.f14 10).size = [0, 1, 2, 3, 4, 5, 6] := by kernel_rfl
theorem R14_11_l : List.range (regOf Tryd.f14 11).size = [0, 1, 2] := by kernel_rfl
theorem R14_7_l : List.range (regOf Tryd.f14 7).size = [0, 1, 2] := by kernel_rfl
theorem R14_13_l : List.range (regOf Tryd.f14 13).size = [0, 1] := by kernel_rfl
theorem R14_14_l : List.range (regOf Tryd.f14 14).size = [0, 1] := by kernel_rfl
theorem body14 : Tryd.f14.body = some (.seq (.region 0 (regOf Tryd.f14 0) false) (.scope (.seq (.region 1 (regOf Tryd.f14 1) false) (.seq (.label 0) (.seq (.seq (.region 2 (regOf Tryd.f14 2) false) (.block 0 (.loop (.seq (.region 3 (regOf Tryd.f14 3) false) (.seq (.cond (Operand.tmp 17) (.skip) (.exit 0)) (.seq (.block 1 (.seq (.region 4 (regOf Tryd.f14 4) false) (.seq (.region 5 (regOf Tryd.f14 5) false) (.seq (.seq (.region 6 (regOf Tryd.f14 6) false) (.block 2 (.loop (.seq (.block 3 (.seq (.region 8 (regOf Tryd.f14 8) false) (.seq (.seq (.region 9 (regOf Tryd.f14 9) false) (.cond (Operand.tmp 33) (.exit 1) (.skip))) (.seq (.seq (.region 10 (regOf Tryd.f14 10) false) (.cond (Operand.tmp 40) (.exit 2) (.skip))) (.region 11 (regOf Tryd.f14 11) false))))) (.region 7 (regOf Tryd.f14 7) false))))) (.region 12 (regOf Tryd.f14 12) false))))) (.region 13 (regOf Tryd.f14 13) false))))))) (.seq (.region 14 (regOf Tryd.f14 14) false) (.ret))))))) := by kernel_rfl
theorem p14_0_0 : pj (regOf Tryd.f14 0) 0 = some (some 4, .assign (.const (.slice none 0 0)), 45, none) := by kernel_rfl
theorem p14_1_0 : pj (regOf Tryd.f14 1) 0 = some (some 5, .assign (.const (.slice none 0 0)), 45, none) := by kernel_rfl
theorem P14_2 : (List.range (regOf Tryd.f14 2).size).map (pj (regOf Tryd.f14 2)) = [some (some 12, .move (.tmp 0), 46, none), some (some 13, .call { callee := .value (.func 27), args := #[.tmp 12], argTypes := #[46] }, 73, none), some (some 14, .call { callee := .value (.func 26), args := #[.tmp 13], argTypes := #[73] }, 45, none), some (some 15, .call { callee := .builtin .len, args := #[.tmp 14], argTypes := #[45] }, 3, none), some (some 16, .move (.const (.int .i64 0)), 3, none)] := by kernel_rfl
theorem cl27 : callable Tryd.f27 = true := by kernel_rfl
theorem cl26 : callable Tryd.f26 = true := by kernel_rfl
theorem p14_3_0 : pj (regOf Tryd.f14 3) 0 = some (some 17, .binOp .lss 3 (.tmp 16) (.tmp 15) 3, 0, none) := by kernel_rfl
theorem P14_4 : (List.range (regOf Tryd.f14 4).size).map (pj (regOf Tryd.f14 4)) = [some (some 18, .indexAddr 45 (.tmp 14) (.tmp 16), 0, none), some (some 19, .load 3 (.tmp 18), 3, none), some (some 7, .assign (.tmp 19), 3, none)] := by kernel_rfl
theorem tS3 : (Tryd.prog.info? 3).map (·.size) = some 1 := by kernel_rfl
theorem tA3 : (Tryd.prog.underlying 3).map aggD = some false := by kernel_rfl
theorem P14_5 : (List.range (regOf Tryd.f14 5).size).map (pj (regOf Tryd.f14 5)) = [some (some 20, .move (.tmp 7), 3, none), some (some 8, .assign (.tmp 20), 3, none)] := by kernel_rfl
theorem p14_6_0 : pj (regOf Tryd.f14 6) 0 = some (some 9, .assign (.const (.int .i64 0)), 3, none) := by kernel_rfl
theorem P14_8 : (List.range (regOf Tryd.f14 8).size).map (pj (regOf Tryd.f14 8)) = [some (some 24, .move (.tmp 0), 46, none), some (some 25, .move (.tmp 8), 3, none), some (some 26, .lookup 46 (.tmp 24) (.tmp 25) true, 75, none), some (some 23, .move (.tmp 26), 75, none), some (some 27, .extract (.tmp 23) 0, 27, none), some (some 28, .extract (.tmp 23) 1, 4, none), some (some 10, .alloc 27, 0, none), some (none, .store 27 (.tmp 10) (.tmp 27), 0, none), some (some 11, .assign (.tmp 28), 4, none)] := by kernel_rfl
theorem tZ27 : (Tryd.prog.info? 27).bind (·.zero) = some (Value.agg #[Value.int .i64 0, Value.int .i64 0, Value.bool false, Value.pointer none]) := by kernel_rfl
theorem tS27 : (Tryd.prog.info? 27).map (·.size) = some 4 := by kernel_rfl
theorem P14_9 : (List.range (regOf Tryd.f14 9).size).map (pj (regOf Tryd.f14 9)) = [some (some 29, .move (.tmp 11), 4, none), some (some 30, .move (.tmp 29), 4, none), some (some 31, .fieldAddr 27 (.tmp 10) 2, 0, some (1, true)), some (some 32, .load 4 (.tmp 31), 4, some (1, true)), some (some 33, .pick (.tmp 30) (.tmp 32) (.const (.bool false)), 4, none)] := by kernel_rfl
theorem g14_9_1 : dstOf (regOf Tryd.f14 9) 1 = some 30 := by kernel_rfl
theorem tS4 : (Tryd.prog.info? 4).map (·.size) = some 1 := by kernel_rfl
theorem tA4 : (Tryd.prog.underlying 4).map aggD = some false := by kernel_rfl
theorem P14_13 : (List.range (regOf Tryd.f14 13).size).map (pj (regOf Tryd.f14 13)) = [some (some 47, .binOp .add 3 (.tmp 16) (.const (.int .i64 1)) 3, 3, none), some (some 16, .move (.tmp 47), 3, none)] := by kernel_rfl
theorem P14_10 : (List.range (regOf Tryd.f14 10).size).map (pj (regOf Tryd.f14 10)) = [some (some 34, .move (.tmp 11), 4, none), some (some 35, .unOp .not 4 (.tmp 34), 4, none), some (some 36, .move (.tmp 35), 4, none), some (some 37, .move (.tmp 9), 3, some (2, false)), some (some 38, .move (.tmp 1), 3, some (2, false)), some (some 39, .binOp .geq 3 (.tmp 37) (.tmp 38) 3, 4, some (2, false)), some (some 40, .pick (.tmp 36) (.const (.bool true)) (.tmp 39), 4, none)] := by kernel_rfl
theorem g14_10_2 : dstOf (regOf Tryd.f14 10) 2 = some 36 := by kernel_rfl
theorem P14_11 : (List.range (regOf Tryd.f14 11).size).map (pj (regOf Tryd.f14 11)) = [some (some 41, .fieldAddr 27 (.tmp 10) 1, 0, none), some (some 42, .load 3 (.tmp 41), 3, none), some (some 8, .assign (.tmp 42), 3, none)] := by kernel_rfl
theorem P14_7 : (List.range (regOf Tryd.f14 7).size).map (pj (regOf Tryd.f14 7)) = [some (some 21, .move (.tmp 9), 3, none), some (some 22, .binOp .add 3 (.tmp 21) (.const (.int .i64 1)) 3, 3, none), some (some 9, .assign (.tmp 22), 3, none)] := by kernel_rfl
theorem P14_14 : (List.range (regOf Tryd.f14 14).size).map (pj (regOf Tryd.f14 14)) = [some (some 48, .move (.tmp 5), 45, none), some (some 4, .assign (.tmp 48), 45, none)] := by kernel_rfl
set_option maxHeartbeats 4000000 in
theorem loops_no (gV ck : Nat) (es : Array MapEntry) (l : List (Int × V5)) (cnt : Int → Nat) (w : World) (hl : l.length ≤ 1000) (hfl : Falls l cnt) (hgV : w.heap[gV]? = some (.map es ck)) (hFV : MapI encV es ck l) : Calls Tryd.prog 14 #[.map (some gV), .int .i64 64] w fun e w' => e = .returned (.slice none 0 0) ∧ Kp w w' (fun _ => False) := by
 have K_0 := Kp.refl w (fun _ => False)
 have B_gV := hgV
 refine enter (args := [Value.map (some gV), Value.int .i64 64]) (n := 49) Tryd.func14 body14 rfl rfl rfl ?_
 intro a hE
 refine c_reg R14_0_l ?_
 refine q0 p14_0_0 hE (st_assign rfl) ?_; clear hE a; intro a hE
 refine p_nil (x_norm (wp_scope_straight (c_reg R14_1_l ?_)))
 refine q0 p14_1_0 hE (st_assign rfl) ?_; clear hE a; intro a hE
 refine p_nil (x_norm (wp_seq (wp_label (x_norm (wp_seq (c_reg R14_2_l ?_))))))
 refine q0 (pl P14_2 0) hE (st_move rfl) ?_; clear hE a; intro a hE
 refine p_cons (s_call (xs := [Operand.tmp 12]) (args := [Value.map (some gV)]) (pl P14_2 1) hE wn_none rfl rfl Tryd.func27 cl27 (Ms.keys_any (some gV) _) ?_)
 rintro e w3 ⟨gk1, z2, rfl, B_gk1, hk⟩
 have n_gV_gk1 : gV ≠ gk1 := ne_new B_gV z2
 have z_0_gk1 := Nat.le_trans K_0.kept.1 z2
 replace B_gV := kp_blk B_gV hk (fun h => h)
 replace K_0 := K_0.then_ hk (fun _ h => h.elim)
 refine ⟨_, rfl, ?_⟩; clear hE a; intro a hE
 have hnb_gV := blk_lt B_gV
 have hnb_gk1 := blk_lt B_gk1
 have hnz_0 := K_0.kept.1
 refine p_cons (s_call (xs := [Operand.tmp 13]) (args := [Value.func (.func 38) #[] #[Value.pointer (some ⟨gk1, 0, none⟩)]]) (pl P14_2 2) hE wn_none rfl rfl Tryd.func26 cl26 (Ms.sorted_any hFV (by omega) _ B_gV B_gk1) ?_)
 rintro e w7 ⟨A5, c6, rfl, O_q4, hk⟩
 replace B_gV := kp_blk B_gV hk (fun h => h)
 replace B_gk1 := kp_blk B_gk1 hk (fun h => h)
 replace K_0 := K_0.then_ hk (fun _ h => h.elim)
 have Nb_q4_gV : ¬ OB A5 gV := fun h => by have := (own_ob O_q4 h).1; have := hnb_gV; omega
 have Nb_q4_gk1 : ¬ OB A5 gk1 := fun h => by have := (own_ob O_q4 h).1; have := hnb_gk1; omega
 have Z_0_q4 : ∀ k, OB A5 k → (fun _ => False) k ∨ w.heap.size ≤ k := fun k h => .inr (by have := (own_ob O_q4 h).1; have := hnz_0; omega)
 replace O_q4 := own_lower O_q4 hnz_0
 refine ⟨_, rfl, ?_⟩; clear hE a; intro a hE
 refine qn hE (rc (pl P14_2 3) (st_len Tryd.underlying45 rfl) (rc (pl P14_2 4) (st_move rfl) rn)) ?_; clear hE a; intro a hE
 refine p_nil (x_norm (wp_block ?_))
 refine c_loop (α := Nat) (fun j a W => En 49 a [(0, Value.map (some gV)), (1, Value.int .i64 64), (4, Value.slice none 0 0), (14, Value.slice A5 l.length c6), (15, Value.int .i64 (l.length : Int)), (16, Value.int .i64 (j : Int)), (5, Value.slice none 0 0)] ∧ j ≤ l.length ∧ W.heap[gV]? = some (.map es ck) ∧ W.heap[gk1]? = some (.cells #[Value.map (some gV)] 46 (0, 0)) ∧ W.ownsRow w.heap.size 3 1 (.slice A5 l.length c6) l.length (encs (Value.int .i64) (Ms.ks l)) ∧ ¬ OB A5 gV ∧ ¬ OB A5 gk1 ∧ (∀ k, OB A5 k → (fun _ => False) k ∨ w.heap.size ≤ k) ∧ Kp w W (fun _ => False)) (fun j => l.length - j) (0) ?_ ?_
 ·
  exact ⟨En.sub hE ⟨rfl, rfl, rfl, rfl, rfl, rfl, rfl, trivial⟩, Nat.zero_le _, B_gV, B_gk1, O_q4, Nb_q4_gV, Nb_q4_gk1, Z_0_q4, K_0⟩
 ·
  clear hE a
  rintro j a w8 ⟨hE, hj9, B_gV, B_gk1, O_q4, Nb_q4_gV, Nb_q4_gk1, Z_0_q4, K_0⟩
  refine c_reg R14_3_l ?_
  rcases Decidable.em ((j : Int) < (l.length : Int)) with hc9 | hc9
  ·
   refine p_cons (s_still (v := Value.bool true) p14_3_0 hE wn_none rfl (st_lss rfl rfl (decide_eq_true hc9)) ?_); clear hE a; intro a hE
   refine p_nil (x_norm (wp_seq ?_))
   refine c_cond (t := true) hE rfl ?_
   refine wp_skip (x_norm (wp_seq (wp_block (c_reg R14_4_l ?_))))
   refine qn hE (rc (pl P14_4 0) (st_indexAddrC (i := j) Tryd.underlying45 tS3 (own_told O_q4) rfl rfl (by omega)) (rc (v := Value.int .i64 (rd (Ms.ks l) (j : Int))) (pl P14_4 1) (st_loadC (i := j) tA3 (own_told O_q4) (by omega) rfl) (rc (pl P14_4 2) (st_assign rfl) rn))) ?_; clear hE a; intro a hE
   refine p_nil (x_norm (c_reg R14_5_l ?_))
   refine qn hE (rc (pl P14_5 0) (st_move rfl) (rc (pl P14_5 1) (st_assign rfl) rn)) ?_; clear hE a; intro a hE
   refine p_nil (x_norm (wp_seq (c_reg R14_6_l ?_)))
   refine q0 p14_6_0 hE (st_assign rfl) ?_; clear hE a; intro a hE
   refine p_nil (x_norm (wp_block ?_))
   have hst9 : ∃ v, getI l (rd (Ms.ks l) (j : Int)) = some v := key_there hFV (by omega)
   have hcs9 : cnt (rd (Ms.ks l) (j : Int)) + 0 ≤ 12 := by obtain ⟨v, hv⟩ := hst9; exact (hfl _ v hv).1
   refine c_loop (α := Nat) (fun i a W => ∃ (at9 : Int), En 49 a [(0, Value.map (some gV)), (1, Value.int .i64 64), (4, Value.slice none 0 0), (14, Value.slice A5 l.length c6), (15, Value.int .i64 (l.length : Int)), (16, Value.int .i64 (j : Int)), (5, Value.slice none 0 0), (17, Value.bool true), (7, Value.int .i64 (rd (Ms.ks l) (j : Int))), (8, Value.int .i64 at9), (9, Value.int .i64 (i : Int))] ∧ (∃ v, getI l at9 = some v) ∧ cnt at9 + i ≤ 12 ∧ W.heap[gV]? = some (.map es ck) ∧ W.heap[gk1]? = some (.cells #[Value.map (some gV)] 46 (0, 0)) ∧ W.ownsRow w.heap.size 3 1 (.slice A5 l.length c6) l.length (encs (Value.int .i64) (Ms.ks l)) ∧ ¬ OB A5 gV ∧ ¬ OB A5 gk1 ∧ (∀ k, OB A5 k → (fun _ => False) k ∨ w.heap.size ≤ k) ∧ Kp w W (fun _ => False)) (fun i => 13 - i) (0) ?_ ?_
   ·
    exact ⟨(rd (Ms.ks l) (j : Int)), En.sub hE ⟨rfl, rfl, rfl, rfl, rfl, rfl, rfl, rfl, rfl, rfl, rfl, trivial⟩, hst9, hcs9, B_gV, B_gk1, O_q4, Nb_q4_gV, Nb_q4_gk1, Z_0_q4, K_0⟩
   ·
    clear hE a
    rintro i a w10 ⟨at9, hE, hat, hcn, B_gV, B_gk1, O_q4, Nb_q4_gV, Nb_q4_gk1, Z_0_q4, K_0⟩
    refine wp_seq (wp_block (c_reg R14_8_l ?_))
    obtain ⟨vv, hv⟩ := hat
    refine qn hE (rc (pl P14_8 0) (st_move rfl) (rc (pl P14_8 1) (st_move rfl) (rg (v := Value.tuple #[Value.agg #[Value.int .i64 vv.1, Value.int .i64 vv.2.1, Value.bool vv.2.2.1, Value.pointer (some ⟨vv.2.2.2, 0, none⟩)], Value.bool true]) (pl P14_8 2) wn_none (Mi.st_look2 Tryd.underlying46 Tryd.underlying3 tZ27 rfl rfl hFV B_gV (by rw [hv]; rfl) (by rw [hv]; rfl)) (rc (pl P14_8 3) (st_move rfl) (rc (pl P14_8 4) (st_extract rfl rfl) (rc (pl P14_8 5) (st_extract rfl rfl) rn)))))) ?_; clear hE a; intro a hE
    refine p_cons (s_alloc (pl P14_8 6) hE wn_none rfl tZ27 ?_)
    clear hE a; intro g11 w12 z13 B_g11 hk a hE
    replace B_g11 : w12.heap[g11]? = some (.cells #[Value.int .i64 0, Value.int .i64 0, Value.bool false, Value.pointer none] 27 (0, 0)) := B_g11
    have n_gV_g11 : gV ≠ g11 := ne_new B_gV z13
    have n_gk1_g11 : gk1 ≠ g11 := ne_new B_gk1 z13
    have z_0_g11 := Nat.le_trans K_0.kept.1 z13
    have Nb_q4_g11 : ¬ OB A5 g11 := fun h => by have := (own_ob O_q4 h).2; omega
    replace B_gV := kp_blk B_gV hk (fun h => h)
    replace B_gk1 := kp_blk B_gk1 hk (fun h => h)
    replace O_q4 := own_keep O_q4 hk (fun _ _ h => h)
    replace K_0 := K_0.then_ hk (fun _ h => h.elim)
    clear hk
    refine p_cons (s_store (off := 0) (k := 4) (cs' := #[Value.int .i64 vv.1, Value.int .i64 vv.2.1, Value.bool vv.2.2.1, Value.pointer (some ⟨vv.2.2.2, 0, none⟩)]) (pl P14_8 7) hE wn_none tS27 rfl rfl rfl rfl B_g11 (Nat.le_of_ble_eq_true rfl) rfl ?_)
    intro w14 B_g11' hk
    replace B_gV := kp_blk B_gV hk n_gV_g11
    replace B_gk1 := kp_blk B_gk1 hk n_gk1_g11
    replace O_q4 := own_keep O_q4 hk (fun k hk2 h2 => Nb_q4_g11 (by rw [show k = g11 from h2] at hk2; exact hk2))
    replace K_0 := K_0.then_ hk (fun k h => by rw [show k = g11 from h]; exact Or.inr z_0_g11)
    replace B_g11 := B_g11'
    clear hk
    refine q0 (pl P14_8 8) hE (st_assign rfl) ?_; clear hE a; intro a hE
    refine p_nil (x_norm (wp_seq (c_reg R14_9_l ?_)))
    refine qn hE (rc (pl P14_9 0) (st_move rfl) (rc (pl P14_9 1) (st_move rfl) (rg (pl P14_9 2) (wn_some g14_9_1 rfl rfl) (st_fieldAddr Tryd.underlying27 rfl tS4 rfl rfl) (rg (pl P14_9 3) (wn_some g14_9_1 rfl rfl) (st_load1 tA4 rfl ((blk_cell B_g11 2).trans rfl)) (rc (pl P14_9 4) (st_pick rfl rfl) rn))))) ?_; clear hE a; intro a hE
    refine p_nil (x_norm ?_)
    rcases Bool.eq_false_or_eq_true vv.2.2.1 with hb15 | hb15
    ·
     rw [hb15] at hE
     refine c_cond (t := true) hE rfl ?_
     refine wp_exit (x_exit (x_out rfl (x_exit (x_exit (x_out rfl (x_exit (x_in (x_norm (c_regL R14_13_l ?_)))))))))
     refine qn hE (rc (pl P14_13 0) (st_add (z := (j : Int) + 1) rfl rfl (wr_i64 _ (by omega) (by omega))) (rc (pl P14_13 1) (st_move rfl) rn)) ?_; clear hE a; intro a hE
     refine p_nil (x_norm ?_)
     exact ⟨j + 1, by omega, En.sub hE ⟨rfl, rfl, rfl, rfl, rfl, rfl, rfl, trivial⟩, by omega, B_gV, B_gk1, O_q4, Nb_q4_gV, Nb_q4_gk1, Z_0_q4, K_0⟩
    ·
     rw [hb15] at hE
     refine c_cond (t := false) hE rfl ?_
     refine wp_skip (x_norm (wp_seq (c_reg R14_10_l ?_)))
     refine qn hE (rc (pl P14_10 0) (st_move rfl) (rc (pl P14_10 1) (st_not rfl rfl) (rc (pl P14_10 2) (st_move rfl) (rg (pl P14_10 3) (wn_some g14_10_2 rfl rfl) (st_move rfl) (rg (pl P14_10 4) (wn_some g14_10_2 rfl rfl) (st_move rfl) (rg (pl P14_10 5) (wn_some g14_10_2 rfl rfl) (st_geq (b := false) rfl rfl (decide_eq_false (by omega))) (rc (pl P14_10 6) (st_pick rfl rfl) rn))))))) ?_; clear hE a; intro a hE
     refine p_nil (x_norm ?_)
     refine c_cond (t := false) hE rfl ?_
     refine wp_skip (x_norm (c_regL R14_11_l ?_))
     refine qn hE (rc (pl P14_11 0) (st_fieldAddr Tryd.underlying27 rfl tS3 rfl rfl) (rc (pl P14_11 1) (st_load1 tA3 rfl ((blk_cell B_g11 1).trans rfl)) (rc (pl P14_11 2) (st_assign rfl) rn))) ?_; clear hE a; intro a hE
     refine p_nil (x_normB (x_norm (c_regL R14_7_l ?_)))
     refine qn hE (rc (pl P14_7 0) (st_move rfl) (rc (pl P14_7 1) (st_add (z := (i : Int) + 1) rfl rfl (wr_i64 _ (by omega) (by omega))) (rc (pl P14_7 2) (st_assign rfl) rn))) ?_; clear hE a; intro a hE
     refine p_nil (x_norm ?_)
     have hn9 := (hfl _ _ hv).2
     rw [hb15] at hn9
     have hn8 := hn9.resolve_left (by decide)
     have hat9 : ∃ v, getI l vv.2.1 = some v := by obtain ⟨u, hu, _⟩ := hn8; exact ⟨u, hu⟩
     have hcn9 : cnt vv.2.1 + (i + 1) ≤ 12 := by obtain ⟨u, _, hu⟩ := hn8; omega
     exact ⟨i + 1, by omega, vv.2.1, En.sub hE ⟨rfl, rfl, rfl, rfl, rfl, rfl, rfl, rfl, rfl, rfl, rfl, trivial⟩, hat9, hcn9, B_gV, B_gk1, O_q4, Nb_q4_gV, Nb_q4_gk1, Z_0_q4, K_0⟩
  ·
   refine p_cons (s_still (v := Value.bool false) p14_3_0 hE wn_none rfl (st_lss rfl rfl (decide_eq_false hc9)) ?_); clear hE a; intro a hE
   refine p_nil (x_norm (wp_seq ?_))
   refine c_cond (t := false) hE rfl ?_
   refine wp_exit (x_exit (x_exit (x_in (x_norm (c_reg R14_14_l ?_)))))
   refine qn hE (rc (pl P14_14 0) (st_move rfl) (rc (pl P14_14 1) (st_assign rfl) rn)) ?_; clear hE a; intro a hE
   refine p_nil (x_norm (wp_ret (x_retS ?_)))
   refine ret_one (v := Value.slice none 0 0) rfl hE (.tmp rfl .nil) ?_
   exact ⟨rfl, K_0⟩
theorem filt_le {p q : Nat → Bool} : ∀ (l : List Nat), (∀ x ∈ l, p x = true → q x = true) → (l.filter p).length ≤ (l.filter q).length
 | [], _ => Nat.le_refl _
 | a :: l, h => by
  have ih := filt_le l (fun x hx => h x (List.mem_cons_of_mem _ hx))
  rw [List.filter_cons, List.filter_cons]
  cases hp : p a with
  | false => simp only [Bool.false_eq_true, if_false]; split <;> simp <;> omega
  | true => rw [h a (List.mem_cons_self ..) hp]; simp; exact ih
theorem filt_lt {p q : Nat → Bool} : ∀ (l : List Nat), (∀ x ∈ l, p x = true → q x = true) → (∃ x ∈ l, q x = true ∧ p x = false) → (l.filter p).length < (l.filter q).length
 | [], _, h => by obtain ⟨x, hx, _⟩ := h; cases hx
 | a :: l, h, hx => by
  have hle := filt_le l (fun x hx => h x (List.mem_cons_of_mem _ hx))
  obtain ⟨x, hm, hq, hp⟩ := hx
  rw [List.filter_cons, List.filter_cons]
  rcases List.mem_cons.1 hm with rfl | hm
  · rw [hq, hp]; simp; omega
  ·
   have ih := filt_lt l (fun x hx => h x (List.mem_cons_of_mem _ hx)) ⟨x, hm, hq, hp⟩
   cases hp2 : p a with
   | false => simp only [Bool.false_eq_true, if_false]; split <;> simp <;> omega
   | true => rw [h a (List.mem_cons_self ..) hp2]; simp; exact ih
def cntR (rs ns : List Int) (n : Int) : Nat := ((List.range ns.length).filter (fun (j : Nat) => decide (rd rs (j : Int) < rd rs (fiN ns n)))).length
def GoodJ (os : List V6) (rs : List Int) (j : Nat) : Prop := ∀ o, os[j]? = some o → o.2.2.1 = true ∨ (0 ≤ fiN (os.map (·.1)) o.2.1 ∧ rd rs (fiN (os.map (·.1)) o.2.1) < rd rs (j : Int))
theorem Vs_at {W : World} : ∀ {l : List (Int × V5)} {vs : List V4} {j : Nat} {p : Int × V5}, Vs W l vs → l[j]? = some p → ∃ v, vs[j]? = some v ∧ p = (v.1, v.1, v.2.1, v.2.2.1, p.2.2.2.2)
 | p :: l, v :: vs, 0, q, h, hq => by
  injection hq with hq
  subst hq
  exact ⟨v, rfl, h.1.1⟩
 | p :: l, v :: vs, j + 1, q, h, hq => Vs_at (j := j) h.2 hq
 | [], [], _, _, _, hq => by cases hq
 | [], _ :: _, _, _, h, _ => h.elim
 | _ :: _, [], _, _, h, _ => h.elim
theorem fi_nodup : ∀ {L : List Int} {n : Int} {i : Nat}, L.Nodup → L[i]? = some n → fiN L n = (i : Int)
 | [], _, _, _, h => by cases h
 | a :: L, n, 0, _, h => by
  injection h with h
  unfold fiN; rw [if_pos h]; rfl
 | a :: L, n, i + 1, hd, h => by
  rw [List.nodup_cons] at hd
  have hm : n ∈ L := List.mem_of_getElem? (i := i) h
  have ih := fi_nodup (i := i) hd.2 h
  unfold fiN
  rw [if_neg (fun e => hd.1 (by rw [e]; exact hm)), ih, if_neg (by omega)]
  omega
theorem falls_of {W : World} {lV : List (Int × V5)} {kp : List V4} {os : List V6} {rs : List Int} (hVs : Vs W lV kp) (hos : os.map tri6 = kp.map tri) (hn : (lV.map (·.1)).Nodup) (hle : os.length ≤ 12) (hg : ∀ j, j < os.length → GoodJ os rs j) : Falls lV (cntR rs (os.map (·.1))) := by
 intro n v hv
 have hk := Vs_keys hVs
 have ho := tri_node hos
 have hno : (os.map (·.1)).Nodup := by rw [ho, ← hk]; exact hn
 refine ⟨Nat.le_trans (List.length_filter_le _ _) (by rw [List.length_range, List.length_map]; exact hle), ?_⟩
 obtain ⟨j, hj, e⟩ := List.getElem_of_mem (Mi.getI_mem hv)
 have hl : lV[j]? = some (n, v) := by rw [List.getElem?_eq_getElem hj, e]
 obtain ⟨k, hkj, ek⟩ := Vs_at hVs hl
 have hto : (os.map tri6)[j]? = some (tri k) := by rw [hos, List.getElem?_map, hkj]; rfl
 rw [List.getElem?_map, Option.map_eq_some_iff] at hto
 obtain ⟨o, hoj, eo⟩ := hto
 have e1 : n = k.1 := congrArg (fun p : Int × V5 => p.1) ek
 have e2 : v.2.1 = k.2.1 := congrArg (fun p : Int × V5 => p.2.2.1) ek
 have e3 : v.2.2.1 = k.2.2.1 := congrArg (fun p : Int × V5 => p.2.2.2.1) ek
 have f1 : o.1 = k.1 := congrArg (fun p : Int × Int × Bool => p.1) eo
 have f2 : o.2.1 = k.2.1 := congrArg (fun p : Int × Int × Bool => p.2.1) eo
 have f3 : o.2.2.1 = k.2.2.1 := congrArg (fun p : Int × Int × Bool => p.2.2) eo
 have hfj : fiN (os.map (·.1)) n = (j : Int) := fi_nodup hno (by rw [List.getElem?_map, hoj, e1, ← f1]; rfl)
 rcases hg j (List.getElem?_eq_some_iff.1 hoj).1 o hoj with h | ⟨h1, h2⟩
 · left; rw [e3, ← f3]; exact h
 ·
  right
  have hp : v.2.1 = o.2.1 := e2.trans f2.symm
  rw [hp]
  obtain ⟨hlt, hat⟩ := fiN_lt h1
  have hlk : (lV.map (·.1))[(fiN (os.map (·.1)) o.2.1).toNat]? = some o.2.1 := by rw [hk, ← ho]; exact hat
  rw [List.getElem?_map, Option.map_eq_some_iff] at hlk
  obtain ⟨q, hq, eq⟩ := hlk
  refine ⟨q.2, Mi.getI_of_mem hn (by rw [← eq]; exact List.mem_of_getElem? hq), ?_⟩
  unfold cntR
  refine filt_lt _ (fun x _ hx => ?_) ⟨(fiN (os.map (·.1)) o.2.1).toNat, List.mem_range.2 hlt, ?_, ?_⟩
  ·
   have := of_decide_eq_true hx
   rw [hfj]
   exact decide_eq_true (by omega)
  · rw [hfj, Int.toNat_of_nonneg h1]; exact decide_eq_true h2
  · rw [Int.toNat_of_nonneg h1]; exact decide_eq_false (by omega)
theorem R4_0_l : List.range (regOf Tryd.f4 0).size = [0] := by kernel_rfl
theorem R4_1_l : List.range (regOf Tryd.f4 1).size = [0, 1, 2, 3, 4, 5, 6] := by kernel_rfl
theorem R4_2_l : List.range (regOf Tryd.f4 2).size = [0] := by kernel_rfl
theorem R4_3_l : List.range (regOf Tryd.f4 3).size = [0, 1, 2, 3] := by kernel_rfl
theorem R4_5_l : List.range (regOf Tryd.f4 5).size = [0, 1, 2, 3, 4] := by kernel_rfl
theorem R4_6_l : List.range (regOf Tryd.f4 6).size = [0, 1, 2, 3, 4, 5, 6, 7] := by kernel_rfl
theorem R4_8_l : List.range (regOf Tryd.f4 8).size = [0, 1] := by kernel_rfl
theorem R4_4_l : List.range (regOf Tryd.f4 4).size = [0, 1, 2] := by kernel_rfl
theorem R4_9_l : List.range (regOf Tryd.f4 9).size = [0, 1, 2, 3, 4, 5, 6, 7] := by kernel_rfl
theorem body4 : Tryd.f4.body = some (.seq (.region 0 (regOf Tryd.f4 0) false) (.seq (.region 1 (regOf Tryd.f4 1) false) (.seq (.seq (.region 2 (regOf Tryd.f4 2) false) (.block 0 (.loop (.seq (.seq (.region 3 (regOf Tryd.f4 3) false) (.cond (Operand.tmp 17) (.skip) (.exit 0))) (.seq (.block 1 (.seq (.seq (.region 5 (regOf Tryd.f4 5) false) (.cond (Operand.tmp 24) (.exit 1) (.skip))) (.seq (.region 6 (regOf Tryd.f4 6) false) (.seq (.region 7 (regOf Tryd.f4 7) true) (.cond (Operand.tmp 56) (.seq (.region 8 (regOf Tryd.f4 8) false) (.ret)) (.skip)))))) (.region 4 (regOf Tryd.f4 4) false)))))) (.seq (.region 9 (regOf Tryd.f4 9) false) (.ret))))) := by kernel_rfl
theorem p4_0_0 : pj (regOf Tryd.f4 0) 0 = some (some 4, .assign (.const (.bool false)), 4, none) := by kernel_rfl
theorem P4_1 : (List.range (regOf Tryd.f4 1).size).map (pj (regOf Tryd.f4 1)) = [some (some 10, .move (.tmp 0), 44, none), some (some 11, .call { callee := .value (.func 12), args := #[.tmp 10], argTypes := #[44] }, 47, none), some (some 9, .move (.tmp 11), 47, none), some (some 12, .extract (.tmp 9) 0, 46, none), some (some 13, .extract (.tmp 9) 1, 44, none), some (some 5, .assign (.tmp 12), 46, none), some (some 6, .assign (.tmp 13), 44, none)] := by kernel_rfl
theorem cl12 : callable Tryd.f12 = true := by kernel_rfl
theorem p4_2_0 : pj (regOf Tryd.f4 2) 0 = some (some 7, .assign (.const (.int .i64 0)), 3, none) := by kernel_rfl
theorem P4_3 : (List.range (regOf Tryd.f4 3).size).map (pj (regOf Tryd.f4 3)) = [some (some 14, .move (.tmp 7), 3, none), some (some 15, .move (.tmp 6), 44, none), some (some 16, .call { callee := .builtin .len, args := #[.tmp 15], argTypes := #[44] }, 3, none), some (some 17, .binOp .lss 3 (.tmp 14) (.tmp 16) 3, 4, none)] := by kernel_rfl
theorem P4_5 : (List.range (regOf Tryd.f4 5).size).map (pj (regOf Tryd.f4 5)) = [some (some 20, .move (.tmp 6), 44, none), some (some 21, .move (.tmp 7), 3, none), some (some 22, .indexAddr 44 (.tmp 20) (.tmp 21), 0, none), some (some 23, .fieldAddr 24 (.tmp 22) 2, 0, none), some (some 24, .load 4 (.tmp 23), 4, none)] := by kernel_rfl
theorem tS24 : (Tryd.prog.info? 24).map (·.size) = some 4 := by kernel_rfl
theorem P4_4 : (List.range (regOf Tryd.f4 4).size).map (pj (regOf Tryd.f4 4)) = [some (some 18, .move (.tmp 7), 3, none), some (some 19, .binOp .add 3 (.tmp 18) (.const (.int .i64 1)) 3, 3, none), some (some 7, .assign (.tmp 19), 3, none)] := by kernel_rfl
theorem P4_6 : (List.range (regOf Tryd.f4 6).size).map (pj (regOf Tryd.f4 6)) = [some (some 25, .move (.tmp 6), 44, none), some (some 26, .move (.tmp 6), 44, none), some (some 27, .move (.tmp 7), 3, none), some (some 28, .indexAddr 44 (.tmp 26) (.tmp 27), 0, none), some (some 29, .fieldAddr 24 (.tmp 28) 1, 0, none), some (some 30, .load 3 (.tmp 29), 3, none), some (some 31, .call { callee := .value (.func 13), args := #[.tmp 25, .tmp 30], argTypes := #[44, 3] }, 3, none), some (some 8, .assign (.tmp 31), 3, none)] := by kernel_rfl
theorem cl13 : callable Tryd.f13 = true := by kernel_rfl
theorem ns4_7 : Region.noSelect (regOf Tryd.f4 7) = true := by kernel_rfl
theorem p4_7_0 : pj (regOf Tryd.f4 7) 0 = some (some 32, .move (.tmp 8), 3, none) := by kernel_rfl
theorem p4_7_1 : pj (regOf Tryd.f4 7) 1 = some (some 33, .binOp .lss 3 (.tmp 32) (.const (.int .i64 0)) 3, 4, none) := by kernel_rfl
theorem p4_7_2 : pj (regOf Tryd.f4 7) 2 = some (some 34, .move (.tmp 33), 4, none) := by kernel_rfl
theorem g4_7_2 : dstOf (regOf Tryd.f4 7) 2 = some 34 := by kernel_rfl
theorem p4_7_3 : pj (regOf Tryd.f4 7) 3 = some (some 35, .move (.tmp 7), 3, some (2, false)) := by kernel_rfl
theorem p4_7_4 : pj (regOf Tryd.f4 7) 4 = some (some 36, .move (.tmp 1), 45, some (2, false)) := by kernel_rfl
theorem p4_7_5 : pj (regOf Tryd.f4 7) 5 = some (some 37, .call { callee := .builtin .len, args := #[.tmp 36], argTypes := #[45] }, 3, some (2, false)) := by kernel_rfl
theorem p4_7_6 : pj (regOf Tryd.f4 7) 6 = some (some 38, .binOp .geq 3 (.tmp 35) (.tmp 37) 3, 4, some (2, false)) := by kernel_rfl
theorem p4_7_7 : pj (regOf Tryd.f4 7) 7 = some (some 39, .pick (.tmp 34) (.const (.bool true)) (.tmp 38), 4, none) := by kernel_rfl
theorem p4_7_8 : pj (regOf Tryd.f4 7) 8 = some (some 40, .move (.tmp 39), 4, none) := by kernel_rfl
theorem g4_7_8 : dstOf (regOf Tryd.f4 7) 8 = some 40 := by kernel_rfl
theorem p4_7_9 : pj (regOf Tryd.f4 7) 9 = some (some 41, .move (.tmp 8), 3, some (8, false)) := by kernel_rfl
theorem p4_7_10 : pj (regOf Tryd.f4 7) 10 = some (some 42, .move (.tmp 1), 45, some (8, false)) := by kernel_rfl
theorem p4_7_11 : pj (regOf Tryd.f4 7) 11 = some (some 43, .call { callee := .builtin .len, args := #[.tmp 42], argTypes := #[45] }, 3, some (8, false)) := by kernel_rfl
theorem p4_7_12 : pj (regOf Tryd.f4 7) 12 = some (some 44, .binOp .geq 3 (.tmp 41) (.tmp 43) 3, 4, some (8, false)) := by kernel_rfl
theorem p4_7_13 : pj (regOf Tryd.f4 7) 13 = some (some 45, .pick (.tmp 40) (.const (.bool true)) (.tmp 44), 4, none) := by kernel_rfl
theorem p4_7_14 : pj (regOf Tryd.f4 7) 14 = some (some 46, .move (.tmp 45), 4, none) := by kernel_rfl
theorem g4_7_14 : dstOf (regOf Tryd.f4 7) 14 = some 46 := by kernel_rfl
theorem p4_7_15 : pj (regOf Tryd.f4 7) 15 = some (some 47, .move (.tmp 1), 45, some (14, false)) := by kernel_rfl
theorem p4_7_16 : pj (regOf Tryd.f4 7) 16 = some (some 48, .move (.tmp 8), 3, some (14, false)) := by kernel_rfl
theorem p4_7_17 : pj (regOf Tryd.f4 7) 17 = some (some 49, .indexAddr 45 (.tmp 47) (.tmp 48), 0, some (14, false)) := by kernel_rfl
theorem p4_7_18 : pj (regOf Tryd.f4 7) 18 = some (some 50, .load 3 (.tmp 49), 3, some (14, false)) := by kernel_rfl
theorem p4_7_19 : pj (regOf Tryd.f4 7) 19 = some (some 51, .move (.tmp 1), 45, some (14, false)) := by kernel_rfl
theorem p4_7_20 : pj (regOf Tryd.f4 7) 20 = some (some 52, .move (.tmp 7), 3, some (14, false)) := by kernel_rfl
theorem p4_7_21 : pj (regOf Tryd.f4 7) 21 = some (some 53, .indexAddr 45 (.tmp 51) (.tmp 52), 0, some (14, false)) := by kernel_rfl
theorem p4_7_22 : pj (regOf Tryd.f4 7) 22 = some (some 54, .load 3 (.tmp 53), 3, some (14, false)) := by kernel_rfl
theorem p4_7_23 : pj (regOf Tryd.f4 7) 23 = some (some 55, .binOp .geq 3 (.tmp 50) (.tmp 54) 3, 4, some (14, false)) := by kernel_rfl
theorem p4_7_24 : pj (regOf Tryd.f4 7) 24 = some (some 56, .pick (.tmp 46) (.const (.bool true)) (.tmp 55), 4, none) := by kernel_rfl
theorem P4_8 : (List.range (regOf Tryd.f4 8).size).map (pj (regOf Tryd.f4 8)) = [some (some 57, .call { callee := .value (.func 9), args := #[], argTypes := #[] }, 4, none), some (some 4, .assign (.tmp 57), 4, none)] := by kernel_rfl
theorem cl9 : callable Tryd.f9 = true := by kernel_rfl
theorem P4_9 : (List.range (regOf Tryd.f4 9).size).map (pj (regOf Tryd.f4 9)) = [some (some 58, .call { callee := .value (.func 9), args := #[], argTypes := #[] }, 4, none), some (some 59, .move (.tmp 58), 4, none), some (some 60, .move (.tmp 5), 46, some (1, true)), some (some 61, .call { callee := .value (.func 14), args := #[.tmp 60, .const (.int .i64 64)], argTypes := #[46, 3] }, 45, some (1, true)), some (some 62, .call { callee := .builtin .len, args := #[.tmp 61], argTypes := #[45] }, 3, some (1, true)), some (some 63, .binOp .eql 3 (.tmp 62) (.const (.int .i64 0)) 3, 4, some (1, true)), some (some 64, .pick (.tmp 59) (.tmp 63) (.const (.bool false)), 4, none), some (some 4, .assign (.tmp 64), 4, none)] := by kernel_rfl
theorem g4_9_1 : dstOf (regOf Tryd.f4 9) 1 = some 59 := by kernel_rfl
theorem cl14 : callable Tryd.f14 = true := by kernel_rfl
set_option maxHeartbeats 4000000 in
theorem walk (a0 : Option Addr) (cap0 : Nat) (z0 : List (Int × Int × Bool × (List (Int × Int × Int × Int)))) (a1 : Option Addr) (cap1 : Nat) (z1 : List (Int)) (w : World) (hT : Rw.Tx w) (w0 : Kd.C (Kd.pair (Kd.int .i64) (Kd.pair (Kd.int .i64) (Kd.pair Kd.bool (Kd.slice 61 (Kd.pair (Kd.int .i64) (Kd.pair (Kd.int .i64) (Kd.pair (Kd.int .i64) (Kd.int .i64)))))))) w a0 z0.length z0) (m0 : z0.length ≤ cap0) (o0 : (z0.length ≤ maxLen ∧ ∀ x0 ∈ z0, ((Lit.int .i64 x0.1).wf = true ∧ ((Lit.int .i64 x0.2.1).wf = true ∧ (True ∧ ((x0.2.2.2.length ≤ maxLen ∧ ∀ x1 ∈ x0.2.2.2, ((Lit.int .i64 x1.1).wf = true ∧ ((Lit.int .i64 x1.2.1).wf = true ∧ ((Lit.int .i64 x1.2.2.1).wf = true ∧ ((Lit.int .i64 x1.2.2.2).wf = true))))))))))) (y0 : z0.length * Tryd.prog.bytesOf 24 ≤ 140737488351232) (c0 : cap0 ≤ maxLen ∧ (a0 = none → cap0 = 0)) (w1 : Kd.C (Kd.int .i64) w a1 z1.length z1) (m1 : z1.length ≤ cap1) (o1 : (z1.length ≤ maxLen ∧ ∀ x0 ∈ z1, (Lit.int .i64 x0).wf = true)) (y1 : z1.length * Tryd.prog.bytesOf 3 ≤ 140737488351232) (c1 : cap1 ≤ maxLen ∧ (a1 = none → cap1 = 0)) :
  Calls Tryd.prog 4 #[.slice a0 z0.length cap0, .slice a1 z1.length cap1] w fun e w' => e = .returned (.bool true) ∧ Below w.heap.size w w' := by
 have K_0 := Kp.refl w (fun _ => False)
 have hwf : ∀ v ∈ z0, (Lit.int .i64 v.1).wf = true ∧ v.2.2.2.length ≤ 9223372036854775807 := fun v hv => ⟨(o0.2 v hv).1, Nat.le_trans (o0.2 v hv).2.2.2.1 (by decide)⟩
 have hFw := w0
 have hRk := w1
 refine enter (args := [Value.slice a0 z0.length cap0, Value.slice a1 z1.length cap1]) (n := 65) Tryd.func4 body4 rfl rfl rfl ?_
 intro a hE
 refine c_reg R4_0_l ?_
 refine q0 p4_0_0 hE (st_assign rfl) ?_; clear hE a; intro a hE
 refine p_nil (x_norm (c_reg R4_1_l ?_))
 refine q0 (pl P4_1 0) hE (st_move rfl) ?_; clear hE a; intro a hE
 refine p_cons (s_call (xs := [Operand.tmp 10]) (args := [Value.slice a0 z0.length cap0]) (pl P4_1 1) hE wn_none rfl rfl Tryd.func12 cl12 (all_any a0 cap0 z0 hwf _ (fun W' hk => C_to hFw (K_0.then_ hk (fun _ h => h.elim)))) ?_)
 rintro e w1 ⟨gV, ckV, esV, lV, os, AD, cD, rfl, B_gV, MFV, hVs, O_D, hos, hoD, hl12, zV9, hk⟩
 replace K_0 := K_0.then_ hk (fun _ h => h.elim)
 have K_s2 := Kp.refl w1 (fun _ => False)
 have hBV := B_gV
 have hvw := hVs _ (Kp.refl _ _)
 have hll9 : lV.length ≤ 12 := by have h1 := congrArg List.length (Vs_keys hvw); have h2 := congrArg List.length hos; simp only [List.length_map] at h1 h2; omega
 refine ⟨_, rfl, ?_⟩; clear hE a; intro a hE
 refine qn hE (rc (pl P4_1 2) (st_move rfl) (rc (pl P4_1 3) (st_extract rfl rfl) (rc (pl P4_1 4) (st_extract rfl rfl) (rc (pl P4_1 5) (st_assign rfl) (rc (pl P4_1 6) (st_assign rfl) rn))))) ?_; clear hE a; intro a hE
 refine p_nil (x_norm (wp_seq (c_reg R4_2_l ?_)))
 refine q0 p4_2_0 hE (st_assign rfl) ?_; clear hE a; intro a hE
 refine p_nil (x_norm (wp_block ?_))
 refine c_loop (α := Nat) (fun i a W => En 65 a [(0, Value.slice a0 z0.length cap0), (1, Value.slice a1 z1.length cap1), (5, Value.map (some gV)), (6, Value.slice AD os.length cD), (7, Value.int .i64 (i : Int))] ∧ i ≤ os.length ∧ (∀ j, j < i → GoodJ os z1 j) ∧ Rv.RdV W AD os.length 4 (os.flatMap fl6) ∧ Kp w W (fun _ => False) ∧ Kp w1 W (fun _ => False)) (fun i => os.length - i) (0) ?_ ?_
 ·
  exact ⟨En.sub hE ⟨rfl, rfl, rfl, rfl, rfl, trivial⟩, Nat.zero_le _, (fun j h => absurd h (Nat.not_lt_zero _)), O_D, K_0, K_s2⟩
 ·
  clear hE a
  rintro i a w3 ⟨hE, hi9, hgd, O_D, K_0, K_s2⟩
  refine wp_seq (c_reg R4_3_l ?_)
  refine qn hE (rc (pl P4_3 0) (st_move rfl) (rc (pl P4_3 1) (st_move rfl) (rc (pl P4_3 2) (st_len Tryd.underlying44 rfl) rn))) ?_; clear hE a; intro a hE
  rcases Decidable.em ((i : Int) < (os.length : Int)) with hc4 | hc4
  ·
   refine p_cons (s_still (v := Value.bool true) (pl P4_3 3) hE wn_none rfl (st_lss rfl rfl (decide_eq_true hc4)) ?_); clear hE a; intro a hE
   refine p_nil (x_norm ?_)
   refine c_cond (t := true) hE rfl ?_
   refine wp_skip (x_norm (wp_seq (wp_block (wp_seq (c_reg R4_5_l ?_)))))
   obtain ⟨o, hx⟩ : ∃ o, os[i]? = some o := ⟨_, List.getElem?_eq_getElem (by omega)⟩
   have hAeo := (Rv.rdv_elem (fl := fl6) O_D (by decide) (fun _ => rfl) hx).1
   refine qn hE (rc (pl P4_5 0) (st_move rfl) (rc (pl P4_5 1) (st_move rfl) (rc (pl P4_5 2) (st_indexAddrR (i := i) (s := 4) Tryd.underlying44 tS24 hAeo rfl rfl (by omega)) (rc (pl P4_5 3) (st_fieldAddrR (off := i * 4) (f0 := 2) (o' := i * 4 + 2) Tryd.underlying24 rfl tS4 rfl (by omega) rfl) (rc (pl P4_5 4) (st_loadR1 (off := i * 4) (j := 2) tA4 (Rv.rdv_elem (fl := fl6) O_D (by decide) (fun _ => rfl) hx).2 rfl (by omega) rfl) rn))))) ?_; clear hE a; intro a hE
   refine p_nil (x_norm ?_)
   rcases Bool.eq_false_or_eq_true o.2.2.1 with hb5 | hb5
   ·
    rw [hb5] at hE
    refine c_cond (t := true) hE rfl ?_
    refine wp_exit (x_exit (x_in (x_norm (c_regL R4_4_l ?_))))
    refine qn hE (rc (pl P4_4 0) (st_move rfl) (rc (pl P4_4 1) (st_add (z := (i : Int) + 1) rfl rfl (wr_i64 _ (by omega) (by omega))) (rc (pl P4_4 2) (st_assign rfl) rn))) ?_; clear hE a; intro a hE
    refine p_nil (x_norm ?_)
    have hgd9 : ∀ j, j < i + 1 → GoodJ os z1 j := fun j hj => by
     rcases Nat.lt_or_ge j i with q | q
     · exact hgd j q
     ·
      obtain rfl : j = i := by omega
      intro o2 ho2
      rw [hx] at ho2
      injection ho2 with ho2
      subst ho2
      exact .inl hb5
    exact ⟨i + 1, by omega, En.sub hE ⟨rfl, rfl, rfl, rfl, rfl, trivial⟩, by omega, hgd9, O_D, K_0, K_s2⟩
   ·
    rw [hb5] at hE
    refine c_cond (t := false) hE rfl ?_
    refine wp_skip (x_norm (c_reg R4_6_l ?_))
    refine qn hE (rc (pl P4_6 0) (st_move rfl) (rc (pl P4_6 1) (st_move rfl) (rc (pl P4_6 2) (st_move rfl) (rc (pl P4_6 3) (st_indexAddrR (i := i) (s := 4) Tryd.underlying44 tS24 hAeo rfl rfl (by omega)) (rc (pl P4_6 4) (st_fieldAddrR (off := i * 4) (f0 := 1) (o' := i * 4 + 1) Tryd.underlying24 rfl tS3 rfl (by omega) rfl) (rc (pl P4_6 5) (st_loadR1 (off := i * 4) (j := 1) tA3 (Rv.rdv_elem (fl := fl6) O_D (by decide) (fun _ => rfl) hx).2 rfl (by omega) rfl) rn)))))) ?_; clear hE a; intro a hE
    refine p_cons (s_call (xs := [Operand.tmp 25, Operand.tmp 30]) (args := [Value.slice AD os.length cD, Value.int .i64 o.2.1]) (pl P4_6 6) hE wn_none rfl rfl Tryd.func13 cl13 (vfind AD cD os o.2.1 _ O_D (by omega)) ?_)
    rintro e w6 ⟨rfl, hk⟩
    replace O_D := Rv.rdv_keep O_D hk (fun _ _ h => h)
    replace K_0 := K_0.then_ hk (fun _ h => h.elim)
    replace K_s2 := K_s2.then_ hk (fun _ h => h.elim)
    refine ⟨_, rfl, ?_⟩; clear hE a; intro a hE
    refine q0 (pl P4_6 7) hE (st_assign rfl) ?_; clear hE a; intro a hE
    refine p_nil (x_norm ?_)
    rcases Decidable.em ((fiN (os.map (·.1)) o.2.1) < 0) with hFA | hFA
    ·
     refine c_drawS (S := fun W => Kd.C (Kd.int .i64) W a1 z1.length z1 ∧ True) rfl rfl (listed := #[false, false, false, false, false, false, false, false, false, false, false, false, false, false, false, false, false, false, false, false, false, false, false, false, false]) rfl ?_
     intro w7 hh hk
     replace O_D := Rv.rdv_keep O_D hk (fun _ _ h => h)
     replace K_0 := K_0.then_ hk (fun _ h => h.elim)
     replace K_s2 := K_s2.then_ hk (fun _ h => h.elim)
     clear hh hk
     refine Rv.dq (v := Value.int .i64 (fiN (os.map (·.1)) o.2.1)) p4_7_0 ns4_7 hE wn_none ⟨(C_to hRk K_0), trivial⟩ (fun W hS => (st_move rfl)) ?_; clear hE a; intro a hE
     refine Rv.dq (v := Value.bool true) p4_7_1 ns4_7 hE wn_none ⟨(C_to hRk K_0), trivial⟩ (fun W hS => (st_lss (b := true) rfl rfl (decide_eq_true hFA))) ?_; clear hE a; intro a hE
     refine Rv.dq (v := Value.bool true) p4_7_2 ns4_7 hE wn_none ⟨(C_to hRk K_0), trivial⟩ (fun W hS => (st_move rfl)) ?_; clear hE a; intro a hE
     refine Rv.dk p4_7_3 ns4_7 hE (wn_some g4_7_2 rfl rfl) ⟨(C_to hRk K_0), trivial⟩ ?_; clear hE a; intro a hE
     refine Rv.dk p4_7_4 ns4_7 hE (wn_some g4_7_2 rfl rfl) ⟨(C_to hRk K_0), trivial⟩ ?_; clear hE a; intro a hE
     refine Rv.dk p4_7_5 ns4_7 hE (wn_some g4_7_2 rfl rfl) ⟨(C_to hRk K_0), trivial⟩ ?_; clear hE a; intro a hE
     refine Rv.dk p4_7_6 ns4_7 hE (wn_some g4_7_2 rfl rfl) ⟨(C_to hRk K_0), trivial⟩ ?_; clear hE a; intro a hE
     refine Rv.dq (v := Value.bool true) p4_7_7 ns4_7 hE wn_none ⟨(C_to hRk K_0), trivial⟩ (fun W hS => (st_pick rfl rfl)) ?_; clear hE a; intro a hE
     refine Rv.dq (v := Value.bool true) p4_7_8 ns4_7 hE wn_none ⟨(C_to hRk K_0), trivial⟩ (fun W hS => (st_move rfl)) ?_; clear hE a; intro a hE
     refine Rv.dk p4_7_9 ns4_7 hE (wn_some g4_7_8 rfl rfl) ⟨(C_to hRk K_0), trivial⟩ ?_; clear hE a; intro a hE
     refine Rv.dk p4_7_10 ns4_7 hE (wn_some g4_7_8 rfl rfl) ⟨(C_to hRk K_0), trivial⟩ ?_; clear hE a; intro a hE
     refine Rv.dk p4_7_11 ns4_7 hE (wn_some g4_7_8 rfl rfl) ⟨(C_to hRk K_0), trivial⟩ ?_; clear hE a; intro a hE
     refine Rv.dk p4_7_12 ns4_7 hE (wn_some g4_7_8 rfl rfl) ⟨(C_to hRk K_0), trivial⟩ ?_; clear hE a; intro a hE
     refine Rv.dq (v := Value.bool true) p4_7_13 ns4_7 hE wn_none ⟨(C_to hRk K_0), trivial⟩ (fun W hS => (st_pick rfl rfl)) ?_; clear hE a; intro a hE
     refine Rv.dq (v := Value.bool true) p4_7_14 ns4_7 hE wn_none ⟨(C_to hRk K_0), trivial⟩ (fun W hS => (st_move rfl)) ?_; clear hE a; intro a hE
     refine Rv.dk p4_7_15 ns4_7 hE (wn_some g4_7_14 rfl rfl) ⟨(C_to hRk K_0), trivial⟩ ?_; clear hE a; intro a hE
     refine Rv.dk p4_7_16 ns4_7 hE (wn_some g4_7_14 rfl rfl) ⟨(C_to hRk K_0), trivial⟩ ?_; clear hE a; intro a hE
     refine Rv.dk p4_7_17 ns4_7 hE (wn_some g4_7_14 rfl rfl) ⟨(C_to hRk K_0), trivial⟩ ?_; clear hE a; intro a hE
     refine Rv.dk p4_7_18 ns4_7 hE (wn_some g4_7_14 rfl rfl) ⟨(C_to hRk K_0), trivial⟩ ?_; clear hE a; intro a hE
     refine Rv.dk p4_7_19 ns4_7 hE (wn_some g4_7_14 rfl rfl) ⟨(C_to hRk K_0), trivial⟩ ?_; clear hE a; intro a hE
     refine Rv.dk p4_7_20 ns4_7 hE (wn_some g4_7_14 rfl rfl) ⟨(C_to hRk K_0), trivial⟩ ?_; clear hE a; intro a hE
     refine Rv.dk p4_7_21 ns4_7 hE (wn_some g4_7_14 rfl rfl) ⟨(C_to hRk K_0), trivial⟩ ?_; clear hE a; intro a hE
     refine Rv.dk p4_7_22 ns4_7 hE (wn_some g4_7_14 rfl rfl) ⟨(C_to hRk K_0), trivial⟩ ?_; clear hE a; intro a hE
     refine Rv.dk p4_7_23 ns4_7 hE (wn_some g4_7_14 rfl rfl) ⟨(C_to hRk K_0), trivial⟩ ?_; clear hE a; intro a hE
     refine Rv.dq (v := Value.bool true) p4_7_24 ns4_7 hE wn_none ⟨(C_to hRk K_0), trivial⟩ (fun W hS => (st_pick rfl rfl)) ?_; clear hE a; intro a hE
     refine d_end (by kernel_rfl) ?_
     refine x_norm ?_
     refine c_cond (t := true) hE rfl ?_
     refine c_reg R4_8_l ?_
     refine p_cons (s_call (xs := []) (args := []) (pl P4_8 0) hE wn_none rfl rfl Tryd.func9 cl9 (kn21 _ (tx_keep hT K_0)) ?_)
     rintro e w8 ⟨rfl, hk⟩
     replace O_D := Rv.rdv_keep O_D hk (fun _ _ h => h)
     replace K_0 := K_0.then_ hk (fun _ h => h.elim)
     replace K_s2 := K_s2.then_ hk (fun _ h => h.elim)
     refine ⟨_, rfl, ?_⟩; clear hE a; intro a hE
     refine q0 (pl P4_8 1) hE (st_assign rfl) ?_; clear hE a; intro a hE
     refine p_nil (x_norm (wp_ret (x_retB (x_ret (x_ret (x_retB (x_ret ?_)))))))
     refine ret_one (v := Value.bool true) rfl hE (.tmp rfl .nil) ?_
     exact ⟨rfl, K_0.to (Nat.le_refl _) (fun _ h => h.elim)⟩
    ·
     obtain ⟨f, hff⟩ : ∃ f : Nat, (fiN (os.map (·.1)) o.2.1) = (f : Int) := ⟨_, (Int.toNat_of_nonneg (by omega)).symm⟩
     rw [hff] at hE
     rcases Decidable.em ((z1.length : Int) ≤ (i : Int)) with hFB | hFB
     ·
      refine c_drawS (S := fun W => Kd.C (Kd.int .i64) W a1 z1.length z1 ∧ True) rfl rfl (listed := #[false, false, false, false, false, false, false, false, false, false, false, false, false, false, false, false, false, false, false, false, false, false, false, false, false]) rfl ?_
      intro w9 hh hk
      replace O_D := Rv.rdv_keep O_D hk (fun _ _ h => h)
      replace K_0 := K_0.then_ hk (fun _ h => h.elim)
      replace K_s2 := K_s2.then_ hk (fun _ h => h.elim)
      clear hh hk
      refine Rv.dq (v := Value.int .i64 (f : Int)) p4_7_0 ns4_7 hE wn_none ⟨(C_to hRk K_0), trivial⟩ (fun W hS => (st_move rfl)) ?_; clear hE a; intro a hE
      refine Rv.dq (v := Value.bool false) p4_7_1 ns4_7 hE wn_none ⟨(C_to hRk K_0), trivial⟩ (fun W hS => (st_lss (b := false) rfl rfl (decide_eq_false (by omega)))) ?_; clear hE a; intro a hE
      refine Rv.dq (v := Value.bool false) p4_7_2 ns4_7 hE wn_none ⟨(C_to hRk K_0), trivial⟩ (fun W hS => (st_move rfl)) ?_; clear hE a; intro a hE
      refine Rv.dq (v := Value.int .i64 (i : Int)) p4_7_3 ns4_7 hE (wn_some g4_7_2 rfl rfl) ⟨(C_to hRk K_0), trivial⟩ (fun W hS => (st_move rfl)) ?_; clear hE a; intro a hE
      refine Rv.dq (v := Value.slice a1 z1.length cap1) p4_7_4 ns4_7 hE (wn_some g4_7_2 rfl rfl) ⟨(C_to hRk K_0), trivial⟩ (fun W hS => (st_move rfl)) ?_; clear hE a; intro a hE
      refine Rv.dq (v := Value.int .i64 (z1.length : Int)) p4_7_5 ns4_7 hE (wn_some g4_7_2 rfl rfl) ⟨(C_to hRk K_0), trivial⟩ (fun W hS => (st_len Tryd.underlying45 rfl)) ?_; clear hE a; intro a hE
      refine Rv.dq (v := Value.bool true) p4_7_6 ns4_7 hE (wn_some g4_7_2 rfl rfl) ⟨(C_to hRk K_0), trivial⟩ (fun W hS => (st_geq (b := true) rfl rfl (decide_eq_true hFB))) ?_; clear hE a; intro a hE
      refine Rv.dq (v := Value.bool true) p4_7_7 ns4_7 hE wn_none ⟨(C_to hRk K_0), trivial⟩ (fun W hS => (st_pick rfl rfl)) ?_; clear hE a; intro a hE
      refine Rv.dq (v := Value.bool true) p4_7_8 ns4_7 hE wn_none ⟨(C_to hRk K_0), trivial⟩ (fun W hS => (st_move rfl)) ?_; clear hE a; intro a hE
      refine Rv.dk p4_7_9 ns4_7 hE (wn_some g4_7_8 rfl rfl) ⟨(C_to hRk K_0), trivial⟩ ?_; clear hE a; intro a hE
      refine Rv.dk p4_7_10 ns4_7 hE (wn_some g4_7_8 rfl rfl) ⟨(C_to hRk K_0), trivial⟩ ?_; clear hE a; intro a hE
      refine Rv.dk p4_7_11 ns4_7 hE (wn_some g4_7_8 rfl rfl) ⟨(C_to hRk K_0), trivial⟩ ?_; clear hE a; intro a hE
      refine Rv.dk p4_7_12 ns4_7 hE (wn_some g4_7_8 rfl rfl) ⟨(C_to hRk K_0), trivial⟩ ?_; clear hE a; intro a hE
      refine Rv.dq (v := Value.bool true) p4_7_13 ns4_7 hE wn_none ⟨(C_to hRk K_0), trivial⟩ (fun W hS => (st_pick rfl rfl)) ?_; clear hE a; intro a hE
      refine Rv.dq (v := Value.bool true) p4_7_14 ns4_7 hE wn_none ⟨(C_to hRk K_0), trivial⟩ (fun W hS => (st_move rfl)) ?_; clear hE a; intro a hE
      refine Rv.dk p4_7_15 ns4_7 hE (wn_some g4_7_14 rfl rfl) ⟨(C_to hRk K_0), trivial⟩ ?_; clear hE a; intro a hE
      refine Rv.dk p4_7_16 ns4_7 hE (wn_some g4_7_14 rfl rfl) ⟨(C_to hRk K_0), trivial⟩ ?_; clear hE a; intro a hE
      refine Rv.dk p4_7_17 ns4_7 hE (wn_some g4_7_14 rfl rfl) ⟨(C_to hRk K_0), trivial⟩ ?_; clear hE a; intro a hE
      refine Rv.dk p4_7_18 ns4_7 hE (wn_some g4_7_14 rfl rfl) ⟨(C_to hRk K_0), trivial⟩ ?_; clear hE a; intro a hE
      refine Rv.dk p4_7_19 ns4_7 hE (wn_some g4_7_14 rfl rfl) ⟨(C_to hRk K_0), trivial⟩ ?_; clear hE a; intro a hE
      refine Rv.dk p4_7_20 ns4_7 hE (wn_some g4_7_14 rfl rfl) ⟨(C_to hRk K_0), trivial⟩ ?_; clear hE a; intro a hE
      refine Rv.dk p4_7_21 ns4_7 hE (wn_some g4_7_14 rfl rfl) ⟨(C_to hRk K_0), trivial⟩ ?_; clear hE a; intro a hE
      refine Rv.dk p4_7_22 ns4_7 hE (wn_some g4_7_14 rfl rfl) ⟨(C_to hRk K_0), trivial⟩ ?_; clear hE a; intro a hE
      refine Rv.dk p4_7_23 ns4_7 hE (wn_some g4_7_14 rfl rfl) ⟨(C_to hRk K_0), trivial⟩ ?_; clear hE a; intro a hE
      refine Rv.dq (v := Value.bool true) p4_7_24 ns4_7 hE wn_none ⟨(C_to hRk K_0), trivial⟩ (fun W hS => (st_pick rfl rfl)) ?_; clear hE a; intro a hE
      refine d_end (by kernel_rfl) ?_
      refine x_norm ?_
      refine c_cond (t := true) hE rfl ?_
      refine c_reg R4_8_l ?_
      refine p_cons (s_call (xs := []) (args := []) (pl P4_8 0) hE wn_none rfl rfl Tryd.func9 cl9 (kn21 _ (tx_keep hT K_0)) ?_)
      rintro e w10 ⟨rfl, hk⟩
      replace O_D := Rv.rdv_keep O_D hk (fun _ _ h => h)
      replace K_0 := K_0.then_ hk (fun _ h => h.elim)
      replace K_s2 := K_s2.then_ hk (fun _ h => h.elim)
      refine ⟨_, rfl, ?_⟩; clear hE a; intro a hE
      refine q0 (pl P4_8 1) hE (st_assign rfl) ?_; clear hE a; intro a hE
      refine p_nil (x_norm (wp_ret (x_retB (x_ret (x_ret (x_retB (x_ret ?_)))))))
      refine ret_one (v := Value.bool true) rfl hE (.tmp rfl .nil) ?_
      exact ⟨rfl, K_0.to (Nat.le_refl _) (fun _ h => h.elim)⟩
     ·
      rcases Decidable.em ((z1.length : Int) ≤ (f : Int)) with hFC | hFC
      ·
       refine c_drawS (S := fun W => Kd.C (Kd.int .i64) W a1 z1.length z1 ∧ True) rfl rfl (listed := #[false, false, false, false, false, false, false, false, false, false, false, false, false, false, false, false, false, false, false, false, false, false, false, false, false]) rfl ?_
       intro w11 hh hk
       replace O_D := Rv.rdv_keep O_D hk (fun _ _ h => h)
       replace K_0 := K_0.then_ hk (fun _ h => h.elim)
       replace K_s2 := K_s2.then_ hk (fun _ h => h.elim)
       clear hh hk
       refine Rv.dq (v := Value.int .i64 (f : Int)) p4_7_0 ns4_7 hE wn_none ⟨(C_to hRk K_0), trivial⟩ (fun W hS => (st_move rfl)) ?_; clear hE a; intro a hE
       refine Rv.dq (v := Value.bool false) p4_7_1 ns4_7 hE wn_none ⟨(C_to hRk K_0), trivial⟩ (fun W hS => (st_lss (b := false) rfl rfl (decide_eq_false (by omega)))) ?_; clear hE a; intro a hE
       refine Rv.dq (v := Value.bool false) p4_7_2 ns4_7 hE wn_none ⟨(C_to hRk K_0), trivial⟩ (fun W hS => (st_move rfl)) ?_; clear hE a; intro a hE
       refine Rv.dq (v := Value.int .i64 (i : Int)) p4_7_3 ns4_7 hE (wn_some g4_7_2 rfl rfl) ⟨(C_to hRk K_0), trivial⟩ (fun W hS => (st_move rfl)) ?_; clear hE a; intro a hE
       refine Rv.dq (v := Value.slice a1 z1.length cap1) p4_7_4 ns4_7 hE (wn_some g4_7_2 rfl rfl) ⟨(C_to hRk K_0), trivial⟩ (fun W hS => (st_move rfl)) ?_; clear hE a; intro a hE
       refine Rv.dq (v := Value.int .i64 (z1.length : Int)) p4_7_5 ns4_7 hE (wn_some g4_7_2 rfl rfl) ⟨(C_to hRk K_0), trivial⟩ (fun W hS => (st_len Tryd.underlying45 rfl)) ?_; clear hE a; intro a hE
       refine Rv.dq (v := Value.bool false) p4_7_6 ns4_7 hE (wn_some g4_7_2 rfl rfl) ⟨(C_to hRk K_0), trivial⟩ (fun W hS => (st_geq (b := false) rfl rfl (decide_eq_false hFB))) ?_; clear hE a; intro a hE
       refine Rv.dq (v := Value.bool false) p4_7_7 ns4_7 hE wn_none ⟨(C_to hRk K_0), trivial⟩ (fun W hS => (st_pick rfl rfl)) ?_; clear hE a; intro a hE
       refine Rv.dq (v := Value.bool false) p4_7_8 ns4_7 hE wn_none ⟨(C_to hRk K_0), trivial⟩ (fun W hS => (st_move rfl)) ?_; clear hE a; intro a hE
       refine Rv.dq (v := Value.int .i64 (f : Int)) p4_7_9 ns4_7 hE (wn_some g4_7_8 rfl rfl) ⟨(C_to hRk K_0), trivial⟩ (fun W hS => (st_move rfl)) ?_; clear hE a; intro a hE
       refine Rv.dq (v := Value.slice a1 z1.length cap1) p4_7_10 ns4_7 hE (wn_some g4_7_8 rfl rfl) ⟨(C_to hRk K_0), trivial⟩ (fun W hS => (st_move rfl)) ?_; clear hE a; intro a hE
       refine Rv.dq (v := Value.int .i64 (z1.length : Int)) p4_7_11 ns4_7 hE (wn_some g4_7_8 rfl rfl) ⟨(C_to hRk K_0), trivial⟩ (fun W hS => (st_len Tryd.underlying45 rfl)) ?_; clear hE a; intro a hE
       refine Rv.dq (v := Value.bool true) p4_7_12 ns4_7 hE (wn_some g4_7_8 rfl rfl) ⟨(C_to hRk K_0), trivial⟩ (fun W hS => (st_geq (b := true) rfl rfl (decide_eq_true hFC))) ?_; clear hE a; intro a hE
       refine Rv.dq (v := Value.bool true) p4_7_13 ns4_7 hE wn_none ⟨(C_to hRk K_0), trivial⟩ (fun W hS => (st_pick rfl rfl)) ?_; clear hE a; intro a hE
       refine Rv.dq (v := Value.bool true) p4_7_14 ns4_7 hE wn_none ⟨(C_to hRk K_0), trivial⟩ (fun W hS => (st_move rfl)) ?_; clear hE a; intro a hE
       refine Rv.dk p4_7_15 ns4_7 hE (wn_some g4_7_14 rfl rfl) ⟨(C_to hRk K_0), trivial⟩ ?_; clear hE a; intro a hE
       refine Rv.dk p4_7_16 ns4_7 hE (wn_some g4_7_14 rfl rfl) ⟨(C_to hRk K_0), trivial⟩ ?_; clear hE a; intro a hE
       refine Rv.dk p4_7_17 ns4_7 hE (wn_some g4_7_14 rfl rfl) ⟨(C_to hRk K_0), trivial⟩ ?_; clear hE a; intro a hE
       refine Rv.dk p4_7_18 ns4_7 hE (wn_some g4_7_14 rfl rfl) ⟨(C_to hRk K_0), trivial⟩ ?_; clear hE a; intro a hE
       refine Rv.dk p4_7_19 ns4_7 hE (wn_some g4_7_14 rfl rfl) ⟨(C_to hRk K_0), trivial⟩ ?_; clear hE a; intro a hE
       refine Rv.dk p4_7_20 ns4_7 hE (wn_some g4_7_14 rfl rfl) ⟨(C_to hRk K_0), trivial⟩ ?_; clear hE a; intro a hE
       refine Rv.dk p4_7_21 ns4_7 hE (wn_some g4_7_14 rfl rfl) ⟨(C_to hRk K_0), trivial⟩ ?_; clear hE a; intro a hE
       refine Rv.dk p4_7_22 ns4_7 hE (wn_some g4_7_14 rfl rfl) ⟨(C_to hRk K_0), trivial⟩ ?_; clear hE a; intro a hE
       refine Rv.dk p4_7_23 ns4_7 hE (wn_some g4_7_14 rfl rfl) ⟨(C_to hRk K_0), trivial⟩ ?_; clear hE a; intro a hE
       refine Rv.dq (v := Value.bool true) p4_7_24 ns4_7 hE wn_none ⟨(C_to hRk K_0), trivial⟩ (fun W hS => (st_pick rfl rfl)) ?_; clear hE a; intro a hE
       refine d_end (by kernel_rfl) ?_
       refine x_norm ?_
       refine c_cond (t := true) hE rfl ?_
       refine c_reg R4_8_l ?_
       refine p_cons (s_call (xs := []) (args := []) (pl P4_8 0) hE wn_none rfl rfl Tryd.func9 cl9 (kn21 _ (tx_keep hT K_0)) ?_)
       rintro e w12 ⟨rfl, hk⟩
       replace O_D := Rv.rdv_keep O_D hk (fun _ _ h => h)
       replace K_0 := K_0.then_ hk (fun _ h => h.elim)
       replace K_s2 := K_s2.then_ hk (fun _ h => h.elim)
       refine ⟨_, rfl, ?_⟩; clear hE a; intro a hE
       refine q0 (pl P4_8 1) hE (st_assign rfl) ?_; clear hE a; intro a hE
       refine p_nil (x_norm (wp_ret (x_retB (x_ret (x_ret (x_retB (x_ret ?_)))))))
       refine ret_one (v := Value.bool true) rfl hE (.tmp rfl .nil) ?_
       exact ⟨rfl, K_0.to (Nat.le_refl _) (fun _ h => h.elim)⟩
      ·
       rcases Decidable.em (rd z1 (i : Int) ≤ rd z1 (f : Int)) with hFD | hFD
       ·
        refine c_drawS (S := fun W => Kd.C (Kd.int .i64) W a1 z1.length z1 ∧ True) rfl rfl (listed := #[false, false, false, false, false, false, false, false, false, false, false, false, false, false, false, false, false, false, false, false, false, false, false, false, false]) rfl ?_
        intro w13 hh hk
        replace O_D := Rv.rdv_keep O_D hk (fun _ _ h => h)
        replace K_0 := K_0.then_ hk (fun _ h => h.elim)
        replace K_s2 := K_s2.then_ hk (fun _ h => h.elim)
        clear hh hk
        refine Rv.dq (v := Value.int .i64 (f : Int)) p4_7_0 ns4_7 hE wn_none ⟨(C_to hRk K_0), trivial⟩ (fun W hS => (st_move rfl)) ?_; clear hE a; intro a hE
        refine Rv.dq (v := Value.bool false) p4_7_1 ns4_7 hE wn_none ⟨(C_to hRk K_0), trivial⟩ (fun W hS => (st_lss (b := false) rfl rfl (decide_eq_false (by omega)))) ?_; clear hE a; intro a hE
        refine Rv.dq (v := Value.bool false) p4_7_2 ns4_7 hE wn_none ⟨(C_to hRk K_0), trivial⟩ (fun W hS => (st_move rfl)) ?_; clear hE a; intro a hE
        refine Rv.dq (v := Value.int .i64 (i : Int)) p4_7_3 ns4_7 hE (wn_some g4_7_2 rfl rfl) ⟨(C_to hRk K_0), trivial⟩ (fun W hS => (st_move rfl)) ?_; clear hE a; intro a hE
        refine Rv.dq (v := Value.slice a1 z1.length cap1) p4_7_4 ns4_7 hE (wn_some g4_7_2 rfl rfl) ⟨(C_to hRk K_0), trivial⟩ (fun W hS => (st_move rfl)) ?_; clear hE a; intro a hE
        refine Rv.dq (v := Value.int .i64 (z1.length : Int)) p4_7_5 ns4_7 hE (wn_some g4_7_2 rfl rfl) ⟨(C_to hRk K_0), trivial⟩ (fun W hS => (st_len Tryd.underlying45 rfl)) ?_; clear hE a; intro a hE
        refine Rv.dq (v := Value.bool false) p4_7_6 ns4_7 hE (wn_some g4_7_2 rfl rfl) ⟨(C_to hRk K_0), trivial⟩ (fun W hS => (st_geq (b := false) rfl rfl (decide_eq_false hFB))) ?_; clear hE a; intro a hE
        refine Rv.dq (v := Value.bool false) p4_7_7 ns4_7 hE wn_none ⟨(C_to hRk K_0), trivial⟩ (fun W hS => (st_pick rfl rfl)) ?_; clear hE a; intro a hE
        refine Rv.dq (v := Value.bool false) p4_7_8 ns4_7 hE wn_none ⟨(C_to hRk K_0), trivial⟩ (fun W hS => (st_move rfl)) ?_; clear hE a; intro a hE
        refine Rv.dq (v := Value.int .i64 (f : Int)) p4_7_9 ns4_7 hE (wn_some g4_7_8 rfl rfl) ⟨(C_to hRk K_0), trivial⟩ (fun W hS => (st_move rfl)) ?_; clear hE a; intro a hE
        refine Rv.dq (v := Value.slice a1 z1.length cap1) p4_7_10 ns4_7 hE (wn_some g4_7_8 rfl rfl) ⟨(C_to hRk K_0), trivial⟩ (fun W hS => (st_move rfl)) ?_; clear hE a; intro a hE
        refine Rv.dq (v := Value.int .i64 (z1.length : Int)) p4_7_11 ns4_7 hE (wn_some g4_7_8 rfl rfl) ⟨(C_to hRk K_0), trivial⟩ (fun W hS => (st_len Tryd.underlying45 rfl)) ?_; clear hE a; intro a hE
        refine Rv.dq (v := Value.bool false) p4_7_12 ns4_7 hE (wn_some g4_7_8 rfl rfl) ⟨(C_to hRk K_0), trivial⟩ (fun W hS => (st_geq (b := false) rfl rfl (decide_eq_false hFC))) ?_; clear hE a; intro a hE
        refine Rv.dq (v := Value.bool false) p4_7_13 ns4_7 hE wn_none ⟨(C_to hRk K_0), trivial⟩ (fun W hS => (st_pick rfl rfl)) ?_; clear hE a; intro a hE
        refine Rv.dq (v := Value.bool false) p4_7_14 ns4_7 hE wn_none ⟨(C_to hRk K_0), trivial⟩ (fun W hS => (st_move rfl)) ?_; clear hE a; intro a hE
        refine Rv.dq (v := Value.slice a1 z1.length cap1) p4_7_15 ns4_7 hE (wn_some g4_7_14 rfl rfl) ⟨(C_to hRk K_0), trivial⟩ (fun W hS => (st_move rfl)) ?_; clear hE a; intro a hE
        refine Rv.dq (v := Value.int .i64 (f : Int)) p4_7_16 ns4_7 hE (wn_some g4_7_14 rfl rfl) ⟨(C_to hRk K_0), trivial⟩ (fun W hS => (st_move rfl)) ?_; clear hE a; intro a hE
        refine Rv.dq (v := Value.pointer (some (ea a1 f))) p4_7_17 ns4_7 hE (wn_some g4_7_14 rfl rfl) ⟨(C_to hRk K_0), trivial⟩ (fun W hS => (st_indexAddrS (i := f) Tryd.underlying45 tS3 (C_at (C_to hRk K_0) (show f < _ by omega)).1 rfl rfl (by omega))) ?_; clear hE a; intro a hE
        refine Rv.dq (v := Value.int .i64 (rd z1 (f : Int))) p4_7_18 ns4_7 hE (wn_some g4_7_14 rfl rfl) ⟨(C_to hRk K_0), trivial⟩ (fun W hS => (st_loadC (i := f) tA3 (hS.1) (by omega) rfl)) ?_; clear hE a; intro a hE
        refine Rv.dq (v := Value.slice a1 z1.length cap1) p4_7_19 ns4_7 hE (wn_some g4_7_14 rfl rfl) ⟨(C_to hRk K_0), trivial⟩ (fun W hS => (st_move rfl)) ?_; clear hE a; intro a hE
        refine Rv.dq (v := Value.int .i64 (i : Int)) p4_7_20 ns4_7 hE (wn_some g4_7_14 rfl rfl) ⟨(C_to hRk K_0), trivial⟩ (fun W hS => (st_move rfl)) ?_; clear hE a; intro a hE
        refine Rv.dq (v := Value.pointer (some (ea a1 i))) p4_7_21 ns4_7 hE (wn_some g4_7_14 rfl rfl) ⟨(C_to hRk K_0), trivial⟩ (fun W hS => (st_indexAddrS (i := i) Tryd.underlying45 tS3 (C_at (C_to hRk K_0) (show i < _ by omega)).1 rfl rfl (by omega))) ?_; clear hE a; intro a hE
        refine Rv.dq (v := Value.int .i64 (rd z1 (i : Int))) p4_7_22 ns4_7 hE (wn_some g4_7_14 rfl rfl) ⟨(C_to hRk K_0), trivial⟩ (fun W hS => (st_loadC (i := i) tA3 (hS.1) (by omega) rfl)) ?_; clear hE a; intro a hE
        refine Rv.dq (v := Value.bool true) p4_7_23 ns4_7 hE (wn_some g4_7_14 rfl rfl) ⟨(C_to hRk K_0), trivial⟩ (fun W hS => (st_geq (b := true) rfl rfl (decide_eq_true hFD))) ?_; clear hE a; intro a hE
        refine Rv.dq (v := Value.bool true) p4_7_24 ns4_7 hE wn_none ⟨(C_to hRk K_0), trivial⟩ (fun W hS => (st_pick rfl rfl)) ?_; clear hE a; intro a hE
        refine d_end (by kernel_rfl) ?_
        refine x_norm ?_
        refine c_cond (t := true) hE rfl ?_
        refine c_reg R4_8_l ?_
        refine p_cons (s_call (xs := []) (args := []) (pl P4_8 0) hE wn_none rfl rfl Tryd.func9 cl9 (kn21 _ (tx_keep hT K_0)) ?_)
        rintro e w14 ⟨rfl, hk⟩
        replace O_D := Rv.rdv_keep O_D hk (fun _ _ h => h)
        replace K_0 := K_0.then_ hk (fun _ h => h.elim)
        replace K_s2 := K_s2.then_ hk (fun _ h => h.elim)
        refine ⟨_, rfl, ?_⟩; clear hE a; intro a hE
        refine q0 (pl P4_8 1) hE (st_assign rfl) ?_; clear hE a; intro a hE
        refine p_nil (x_norm (wp_ret (x_retB (x_ret (x_ret (x_retB (x_ret ?_)))))))
        refine ret_one (v := Value.bool true) rfl hE (.tmp rfl .nil) ?_
        exact ⟨rfl, K_0.to (Nat.le_refl _) (fun _ h => h.elim)⟩
       ·
        refine c_drawS (S := fun W => Kd.C (Kd.int .i64) W a1 z1.length z1 ∧ True) rfl rfl (listed := #[false, false, false, false, false, false, false, false, false, false, false, false, false, false, false, false, false, false, false, false, false, false, false, false, false]) rfl ?_
        intro w15 hh hk
        replace O_D := Rv.rdv_keep O_D hk (fun _ _ h => h)
        replace K_0 := K_0.then_ hk (fun _ h => h.elim)
        replace K_s2 := K_s2.then_ hk (fun _ h => h.elim)
        clear hh hk
        refine Rv.dq (v := Value.int .i64 (f : Int)) p4_7_0 ns4_7 hE wn_none ⟨(C_to hRk K_0), trivial⟩ (fun W hS => (st_move rfl)) ?_; clear hE a; intro a hE
        refine Rv.dq (v := Value.bool false) p4_7_1 ns4_7 hE wn_none ⟨(C_to hRk K_0), trivial⟩ (fun W hS => (st_lss (b := false) rfl rfl (decide_eq_false (by omega)))) ?_; clear hE a; intro a hE
        refine Rv.dq (v := Value.bool false) p4_7_2 ns4_7 hE wn_none ⟨(C_to hRk K_0), trivial⟩ (fun W hS => (st_move rfl)) ?_; clear hE a; intro a hE
        refine Rv.dq (v := Value.int .i64 (i : Int)) p4_7_3 ns4_7 hE (wn_some g4_7_2 rfl rfl) ⟨(C_to hRk K_0), trivial⟩ (fun W hS => (st_move rfl)) ?_; clear hE a; intro a hE
        refine Rv.dq (v := Value.slice a1 z1.length cap1) p4_7_4 ns4_7 hE (wn_some g4_7_2 rfl rfl) ⟨(C_to hRk K_0), trivial⟩ (fun W hS => (st_move rfl)) ?_; clear hE a; intro a hE
        refine Rv.dq (v := Value.int .i64 (z1.length : Int)) p4_7_5 ns4_7 hE (wn_some g4_7_2 rfl rfl) ⟨(C_to hRk K_0), trivial⟩ (fun W hS => (st_len Tryd.underlying45 rfl)) ?_; clear hE a; intro a hE
        refine Rv.dq (v := Value.bool false) p4_7_6 ns4_7 hE (wn_some g4_7_2 rfl rfl) ⟨(C_to hRk K_0), trivial⟩ (fun W hS => (st_geq (b := false) rfl rfl (decide_eq_false hFB))) ?_; clear hE a; intro a hE
        refine Rv.dq (v := Value.bool false) p4_7_7 ns4_7 hE wn_none ⟨(C_to hRk K_0), trivial⟩ (fun W hS => (st_pick rfl rfl)) ?_; clear hE a; intro a hE
        refine Rv.dq (v := Value.bool false) p4_7_8 ns4_7 hE wn_none ⟨(C_to hRk K_0), trivial⟩ (fun W hS => (st_move rfl)) ?_; clear hE a; intro a hE
        refine Rv.dq (v := Value.int .i64 (f : Int)) p4_7_9 ns4_7 hE (wn_some g4_7_8 rfl rfl) ⟨(C_to hRk K_0), trivial⟩ (fun W hS => (st_move rfl)) ?_; clear hE a; intro a hE
        refine Rv.dq (v := Value.slice a1 z1.length cap1) p4_7_10 ns4_7 hE (wn_some g4_7_8 rfl rfl) ⟨(C_to hRk K_0), trivial⟩ (fun W hS => (st_move rfl)) ?_; clear hE a; intro a hE
        refine Rv.dq (v := Value.int .i64 (z1.length : Int)) p4_7_11 ns4_7 hE (wn_some g4_7_8 rfl rfl) ⟨(C_to hRk K_0), trivial⟩ (fun W hS => (st_len Tryd.underlying45 rfl)) ?_; clear hE a; intro a hE
        refine Rv.dq (v := Value.bool false) p4_7_12 ns4_7 hE (wn_some g4_7_8 rfl rfl) ⟨(C_to hRk K_0), trivial⟩ (fun W hS => (st_geq (b := false) rfl rfl (decide_eq_false hFC))) ?_; clear hE a; intro a hE
        refine Rv.dq (v := Value.bool false) p4_7_13 ns4_7 hE wn_none ⟨(C_to hRk K_0), trivial⟩ (fun W hS => (st_pick rfl rfl)) ?_; clear hE a; intro a hE
        refine Rv.dq (v := Value.bool false) p4_7_14 ns4_7 hE wn_none ⟨(C_to hRk K_0), trivial⟩ (fun W hS => (st_move rfl)) ?_; clear hE a; intro a hE
        refine Rv.dq (v := Value.slice a1 z1.length cap1) p4_7_15 ns4_7 hE (wn_some g4_7_14 rfl rfl) ⟨(C_to hRk K_0), trivial⟩ (fun W hS => (st_move rfl)) ?_; clear hE a; intro a hE
        refine Rv.dq (v := Value.int .i64 (f : Int)) p4_7_16 ns4_7 hE (wn_some g4_7_14 rfl rfl) ⟨(C_to hRk K_0), trivial⟩ (fun W hS => (st_move rfl)) ?_; clear hE a; intro a hE
        refine Rv.dq (v := Value.pointer (some (ea a1 f))) p4_7_17 ns4_7 hE (wn_some g4_7_14 rfl rfl) ⟨(C_to hRk K_0), trivial⟩ (fun W hS => (st_indexAddrS (i := f) Tryd.underlying45 tS3 (C_at (C_to hRk K_0) (show f < _ by omega)).1 rfl rfl (by omega))) ?_; clear hE a; intro a hE
        refine Rv.dq (v := Value.int .i64 (rd z1 (f : Int))) p4_7_18 ns4_7 hE (wn_some g4_7_14 rfl rfl) ⟨(C_to hRk K_0), trivial⟩ (fun W hS => (st_loadC (i := f) tA3 (hS.1) (by omega) rfl)) ?_; clear hE a; intro a hE
        refine Rv.dq (v := Value.slice a1 z1.length cap1) p4_7_19 ns4_7 hE (wn_some g4_7_14 rfl rfl) ⟨(C_to hRk K_0), trivial⟩ (fun W hS => (st_move rfl)) ?_; clear hE a; intro a hE
        refine Rv.dq (v := Value.int .i64 (i : Int)) p4_7_20 ns4_7 hE (wn_some g4_7_14 rfl rfl) ⟨(C_to hRk K_0), trivial⟩ (fun W hS => (st_move rfl)) ?_; clear hE a; intro a hE
        refine Rv.dq (v := Value.pointer (some (ea a1 i))) p4_7_21 ns4_7 hE (wn_some g4_7_14 rfl rfl) ⟨(C_to hRk K_0), trivial⟩ (fun W hS => (st_indexAddrS (i := i) Tryd.underlying45 tS3 (C_at (C_to hRk K_0) (show i < _ by omega)).1 rfl rfl (by omega))) ?_; clear hE a; intro a hE
        refine Rv.dq (v := Value.int .i64 (rd z1 (i : Int))) p4_7_22 ns4_7 hE (wn_some g4_7_14 rfl rfl) ⟨(C_to hRk K_0), trivial⟩ (fun W hS => (st_loadC (i := i) tA3 (hS.1) (by omega) rfl)) ?_; clear hE a; intro a hE
        refine Rv.dq (v := Value.bool false) p4_7_23 ns4_7 hE (wn_some g4_7_14 rfl rfl) ⟨(C_to hRk K_0), trivial⟩ (fun W hS => (st_geq (b := false) rfl rfl (decide_eq_false hFD))) ?_; clear hE a; intro a hE
        refine Rv.dq (v := Value.bool false) p4_7_24 ns4_7 hE wn_none ⟨(C_to hRk K_0), trivial⟩ (fun W hS => (st_pick rfl rfl)) ?_; clear hE a; intro a hE
        refine d_end (by kernel_rfl) ?_
        refine x_norm ?_
        refine c_cond (t := false) hE rfl ?_
        refine wp_skip (x_normB (x_norm (c_regL R4_4_l ?_)))
        refine qn hE (rc (pl P4_4 0) (st_move rfl) (rc (pl P4_4 1) (st_add (z := (i : Int) + 1) rfl rfl (wr_i64 _ (by omega) (by omega))) (rc (pl P4_4 2) (st_assign rfl) rn))) ?_; clear hE a; intro a hE
        refine p_nil (x_norm ?_)
        have hgd9 : ∀ j, j < i + 1 → GoodJ os z1 j := fun j hj => by
         rcases Nat.lt_or_ge j i with q | q
         · exact hgd j q
         ·
          obtain rfl : j = i := by omega
          intro o2 ho2
          rw [hx] at ho2
          injection ho2 with ho2
          subst ho2
          exact .inr ⟨by omega, by rw [hff]; omega⟩
        exact ⟨i + 1, by omega, En.sub hE ⟨rfl, rfl, rfl, rfl, rfl, trivial⟩, by omega, hgd9, O_D, K_0, K_s2⟩
  ·
   refine p_cons (s_still (v := Value.bool false) (pl P4_3 3) hE wn_none rfl (st_lss rfl rfl (decide_eq_false hc4)) ?_); clear hE a; intro a hE
   refine p_nil (x_norm ?_)
   refine c_cond (t := false) hE rfl ?_
   refine wp_exit (x_exit (x_exit ?_))
   obtain rfl : i = os.length := by omega
   have hfalls := falls_of hvw hos MFV.nodup hl12 hgd
   refine x_in (x_norm (c_reg R4_9_l ?_))
   have B_gV := kp_blk hBV K_s2 (fun h => h)
   refine p_cons (s_call (xs := []) (args := []) (pl P4_9 0) hE wn_none rfl rfl Tryd.func9 cl9 (kn21 _ (tx_keep hT K_0)) ?_)
   rintro e w16 ⟨rfl, hk⟩
   replace B_gV := kp_blk B_gV hk (fun h => h)
   replace O_D := Rv.rdv_keep O_D hk (fun _ _ h => h)
   replace K_0 := K_0.then_ hk (fun _ h => h.elim)
   replace K_s2 := K_s2.then_ hk (fun _ h => h.elim)
   refine ⟨_, rfl, ?_⟩; clear hE a; intro a hE
   refine qn hE (rc (pl P4_9 1) (st_move rfl) (rg (pl P4_9 2) (wn_some g4_9_1 rfl rfl) (st_move rfl) rn)) ?_; clear hE a; intro a hE
   refine p_cons (s_call (xs := [Operand.tmp 60, Operand.const (Value.int IntKind.i64 64)]) (args := [Value.map (some gV), Value.int .i64 64]) (pl P4_9 3) hE (wn_some g4_9_1 rfl rfl) rfl rfl Tryd.func14 cl14 (loops_no gV ckV esV lV (cntR z1 (os.map (·.1))) _ (by omega) hfalls B_gV MFV) ?_)
   rintro e w17 ⟨rfl, hk⟩
   replace B_gV := kp_blk B_gV hk (fun h => h)
   replace O_D := Rv.rdv_keep O_D hk (fun _ _ h => h)
   replace K_0 := K_0.then_ hk (fun _ h => h.elim)
   replace K_s2 := K_s2.then_ hk (fun _ h => h.elim)
   refine ⟨_, rfl, ?_⟩; clear hE a; intro a hE
   refine qn hE (rg (pl P4_9 4) (wn_some g4_9_1 rfl rfl) (st_len Tryd.underlying45 rfl) (rg (pl P4_9 5) (wn_some g4_9_1 rfl rfl) (st_eql (b := true) rfl rfl (by decide)) (rc (pl P4_9 6) (st_pick rfl rfl) (rc (pl P4_9 7) (st_assign rfl) rn)))) ?_; clear hE a; intro a hE
   refine p_nil (x_norm (wp_ret ?_))
   refine ret_one (v := Value.bool true) rfl hE (.tmp rfl .nil) ?_
   exact ⟨rfl, K_0.to (Nat.le_refl _) (fun _ h => h.elim)⟩
end Go.Proofs.YtnmlckaeheiodaaDoor.Rl
