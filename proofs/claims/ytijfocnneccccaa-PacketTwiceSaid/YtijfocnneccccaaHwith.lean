/- header.With. -/
import Derived.Test.YtijfocnneccccaaHdr
set_option maxRecDepth 100000
set_option linter.unusedVariables false
set_option linter.unusedSimpArgs false
namespace Go.Proofs.Ytijfocnneccccaa.Hw
open Go.RowKit Go.Proofs.YtijfocnneccccaaW.PrintWords Go.Proofs.Ytijfocnneccccaa.Ds Go.Proofs.Ytijfocnneccccaa.Cc Go.Proofs.Ytijfocnneccccaa.Hd
open Go.Proofs.Ytijfocnneccccaa.Pk (Kp fitsF spanF putF digF)
theorem concat_two (A : Option Addr) (c : Nat) (a b : List Int) (w : World) (h : Kd.C (Kd.slice 5 (Kd.int .u8)) w A 2 [a, b]) (hc : 2 ≤ c) (hm : (a ++ b).length ≤ 70368744177664) : Calls Try.prog 70 #[.slice A 2 c] w fun e w' => ∃ A' c', e = .returned (.slice A' (a ++ b).length c') ∧ w'.ownsRow w.heap.size 5 1 (.slice A' (a ++ b).length c') (a ++ b).length (encs (Value.int .u8) (a ++ b)) ∧ Kp w w' (fun _ => False) := by
 have e : [a, b].flatten = a ++ b := by simp
 have := concat_any A 2 c [a, b] rfl w h hc (by rw [e]; exact hm) (Nat.le_of_ble_eq_true rfl)
 rwa [e] at this
theorem encF_len (c f l x h : Int) (s d : Nat → Int) : (encF c f l x h s d).length = 40 := rfl
theorem R40_0_l : List.range (regOf Try.f40 0).size = [0, 1, 2] := by kernel_rfl
theorem R40_1_l : List.range (regOf Try.f40 1).size = [0, 1] := by kernel_rfl
theorem R40_2_l : List.range (regOf Try.f40 2).size = [0, 1, 2] := by kernel_rfl
theorem R40_3_l : List.range (regOf Try.f40 3).size = [0, 1] := by kernel_rfl
theorem R40_4_l : List.range (regOf Try.f40 4).size = [0, 1, 2] := by kernel_rfl
theorem R40_5_l : List.range (regOf Try.f40 5).size = [0, 1, 2] := by kernel_rfl
theorem R40_6_l : List.range (regOf Try.f40 6).size = [0, 1, 2] := by kernel_rfl
theorem R40_7_l : List.range (regOf Try.f40 7).size = [0, 1] := by kernel_rfl
theorem R40_8_l : List.range (regOf Try.f40 8).size = [0, 1, 2, 3] := by kernel_rfl
theorem R40_9_l : List.range (regOf Try.f40 9).size = [0, 1, 2, 3, 4, 5, 6] := by kernel_rfl
theorem R40_10_l : List.range (regOf Try.f40 10).size = [0, 1, 2, 3, 4, 5, 6] := by kernel_rfl
theorem body40 : Try.f40.body = some (.seq (.region 0 (regOf Try.f40 0) false) (.seq (.region 1 (regOf Try.f40 1) false) (.seq (.seq (.region 2 (regOf Try.f40 2) false) (.seq (.region 3 (regOf Try.f40 3) false) (.cond (Operand.tmp 14) (.seq (.region 4 (regOf Try.f40 4) false) (.ret)) (.skip)))) (.seq (.region 5 (regOf Try.f40 5) false) (.seq (.seq (.region 6 (regOf Try.f40 6) false) (.cond (Operand.tmp 20) (.seq (.region 7 (regOf Try.f40 7) false) (.ret)) (.skip))) (.seq (.region 8 (regOf Try.f40 8) false) (.seq (.region 9 (regOf Try.f40 9) false) (.seq (.region 10 (regOf Try.f40 10) false) (.ret))))))))) := by kernel_rfl
theorem P40_0 : (List.range (regOf Try.f40 0).size).map (pj (regOf Try.f40 0)) = [zz 2 (.box 27 (.tmp 0)) 0, zz 4 (.assign (.const (.slice none 0 0))) 33, zz 5 (.assign (.const (.int .i64 0))) 36] := by kernel_rfl
theorem P40_1 : (List.range (regOf Try.f40 1).size).map (pj (regOf Try.f40 1)) = [zz 10 (.fieldAddr 27 (.tmp 2) 2) 0, some (none, .store 3 (.tmp 10) (.const (.int .i64 0)), 0, none)] := by kernel_rfl
theorem tS3 : (Try.prog.info? 3).map (·.size) = some 1 := by kernel_rfl
theorem P40_2 : (List.range (regOf Try.f40 2).size).map (pj (regOf Try.f40 2)) = [zz 11 (.load 27 (.tmp 2)) 27, zz 12 (.call { callee := .value (.func 82), args := #[.tmp 11], argTypes := #[27] }) 36, zz 6 (.assign (.tmp 12)) 36] := by kernel_rfl
theorem tA27 : (Try.prog.underlying 27).map aggD = some true := by kernel_rfl
theorem tS27 : (Try.prog.info? 27).map (·.size) = some 37 := by kernel_rfl
theorem cl82 : callable Try.f82 = true := by kernel_rfl
theorem P40_3 : (List.range (regOf Try.f40 3).size).map (pj (regOf Try.f40 3)) = [zz 13 (.move (.tmp 6)) 36, zz 14 (.binOp .neq 36 (.tmp 13) (.const (.int .i64 0)) 36) 4] := by kernel_rfl
theorem P40_4 : (List.range (regOf Try.f40 4).size).map (pj (regOf Try.f40 4)) = [zz 15 (.move (.tmp 6)) 36, zz 4 (.assign (.const (.slice none 0 0))) 33, zz 5 (.assign (.tmp 15)) 36] := by kernel_rfl
set_option maxHeartbeats 4000000 in
theorem with_bad (c f l x h : Int) (s d : Nat → Int) (A : Option Addr) (cap : Nat) (ls : List (List Int)) (hok : okF c f 0 x h = false) (w : World) (hC : Kd.C (Kd.slice 5 (Kd.int .u8)) w A ls.length ls) (hlc : ls.length ≤ cap) (hm : ls.flatten.length ≤ 1000000) (hml : ls.length ≤ 1000000) : Calls Try.prog 40 #[Value.agg (([Value.int .i64 c, Value.int .i64 f, Value.int .i64 l, Value.int .i64 x, Value.int .i64 h] ++ b16 s ++ b16 d)).toArray, .slice A ls.length cap] w fun e w' => e = .returned (.tuple #[.slice none 0 0, .int .i64 1]) ∧ Kp w w' (fun _ => False) := by
 have K_0 := Kp.refl w (fun _ => False)
 have F_ls : ∀ W', Kp w W' (fun _ => False) → Kd.C (Kd.slice 5 (Kd.int .u8)) W' A ls.length ls := fun W' hk => Kd.C_below hC (hk.to (Nat.le_refl _) (fun _ h => h.elim))
 refine enter (args := [Value.agg (([Value.int .i64 c, Value.int .i64 f, Value.int .i64 l, Value.int .i64 x, Value.int .i64 h] ++ b16 s ++ b16 d)).toArray, Value.slice A ls.length cap]) (n := 34) Try.func40 body40 rfl rfl rfl ?_
 intro a hE
 refine c_reg R40_0_l ?_
 refine p_cons (s_box (pl P40_0 0) hE wn_none rfl rfl ?_)
 clear hE a; intro g1 w2 z3 B_g1 hk a hE
 replace B_g1 : w2.heap[g1]? = some (.cells (([Value.int .i64 c, Value.int .i64 f, Value.int .i64 l, Value.int .i64 x, Value.int .i64 h] ++ b16 s ++ b16 d)).toArray 27 (0, 0)) := B_g1
 have z_0_g1 := Nat.le_trans K_0.kept.1 z3
 replace K_0 := K_0.then_ hk (fun _ h => h.elim)
 clear hk
 refine qn hE (rc (pl P40_0 1) (st_assign rfl) (rc (pl P40_0 2) (st_assign rfl) rn)) ?_; clear hE a; intro a hE
 refine p_nil (x_norm (c_reg R40_1_l ?_))
 refine q0 (pl P40_1 0) hE (st_fieldAddr Try.underlying27 rfl tS3 rfl rfl) ?_; clear hE a; intro a hE
 refine p_cons (s_store (off := 2) (k := 1) (cs' := (([Value.int .i64 c, Value.int .i64 f, Value.int .i64 0, Value.int .i64 x, Value.int .i64 h] ++ b16 s ++ b16 d)).toArray) (pl P40_1 1) hE wn_none tS3 rfl rfl rfl rfl B_g1 (Nat.le_of_ble_eq_true rfl) rfl ?_)
 intro w4 B_g1' hk
 replace K_0 := K_0.then_ hk (fun k h => by rw [show k = g1 from h]; exact Or.inr z_0_g1)
 replace B_g1 := B_g1'
 clear hk
 refine p_nil (x_norm (wp_seq (c_reg R40_2_l ?_)))
 refine q0 (pl P40_2 0) hE (st_loadN (off := 0) (k := 37) (vs := ([Value.int .i64 c, Value.int .i64 f, Value.int .i64 0, Value.int .i64 x, Value.int .i64 h] ++ b16 s ++ b16 d)) tA27 tS27 rfl B_g1 rfl rfl) ?_; clear hE a; intro a hE
 refine p_cons (s_call (xs := [Operand.tmp 11]) (args := [Value.agg (([Value.int .i64 c, Value.int .i64 f, Value.int .i64 0, Value.int .i64 x, Value.int .i64 h] ++ b16 s ++ b16 d)).toArray]) (pl P40_2 1) hE wn_none rfl rfl Try.func82 cl82 (check_any c f 0 x h s d 1 (by rw [hok]; rfl) _) ?_)
 rintro e w5 ⟨rfl, hk⟩
 replace B_g1 := kp_blk B_g1 hk (fun h => h)
 replace K_0 := K_0.then_ hk (fun _ h => h.elim)
 refine ⟨_, rfl, ?_⟩; clear hE a; intro a hE
 refine q0 (pl P40_2 2) hE (st_assign rfl) ?_; clear hE a; intro a hE
 refine p_nil (x_norm (c_reg R40_3_l ?_))
 refine qn hE (rc (pl P40_3 0) (st_move rfl) (rc (pl P40_3 1) (st_neq (b := true) rfl rfl (by decide)) rn)) ?_; clear hE a; intro a hE
 refine p_nil (x_norm ?_)
 refine c_cond (t := true) hE rfl ?_
 refine c_reg R40_4_l ?_
 refine qn hE (rc (pl P40_4 0) (st_move rfl) (rc (pl P40_4 1) (st_assign rfl) (rc (pl P40_4 2) (st_assign rfl) rn))) ?_; clear hE a; intro a hE
 refine p_nil (x_norm (wp_ret (x_ret ?_)))
 refine ret_list (rs := [.tmp 4, .tmp 5]) (vs := [Value.slice none 0 0, Value.int .i64 1]) rfl hE (.tmp rfl (.tmp rfl .nil)) rfl ?_
 exact ⟨rfl, K_0⟩
theorem P40_5 : (List.range (regOf Try.f40 5).size).map (pj (regOf Try.f40 5)) = [zz 16 (.move (.tmp 1)) 86, zz 17 (.call { callee := .value (.func 70), args := #[.tmp 16], argTypes := #[86] }) 33, zz 7 (.assign (.tmp 17)) 33] := by kernel_rfl
theorem cl70 : callable Try.f70 = true := by kernel_rfl
theorem P40_6 : (List.range (regOf Try.f40 6).size).map (pj (regOf Try.f40 6)) = [zz 18 (.move (.tmp 7)) 33, zz 19 (.call { callee := .builtin .len, args := #[.tmp 18], argTypes := #[33] }) 3, zz 20 (.binOp .gtr 3 (.tmp 19) (.const (.int .i64 1240)) 3) 4] := by kernel_rfl
theorem P40_7 : (List.range (regOf Try.f40 7).size).map (pj (regOf Try.f40 7)) = [zz 4 (.assign (.const (.slice none 0 0))) 33, zz 5 (.assign (.const (.int .i64 2))) 36] := by kernel_rfl
set_option maxHeartbeats 4000000 in
theorem with_long (c f l x h : Int) (s d : Nat → Int) (A : Option Addr) (cap : Nat) (ls : List (List Int)) (hok : okF c f 0 x h = true) (hl : 1240 < ls.flatten.length) (w : World) (hC : Kd.C (Kd.slice 5 (Kd.int .u8)) w A ls.length ls) (hlc : ls.length ≤ cap) (hm : ls.flatten.length ≤ 1000000) (hml : ls.length ≤ 1000000) : Calls Try.prog 40 #[Value.agg (([Value.int .i64 c, Value.int .i64 f, Value.int .i64 l, Value.int .i64 x, Value.int .i64 h] ++ b16 s ++ b16 d)).toArray, .slice A ls.length cap] w fun e w' => e = .returned (.tuple #[.slice none 0 0, .int .i64 2]) ∧ Kp w w' (fun _ => False) := by
 have K_0 := Kp.refl w (fun _ => False)
 have F_ls : ∀ W', Kp w W' (fun _ => False) → Kd.C (Kd.slice 5 (Kd.int .u8)) W' A ls.length ls := fun W' hk => Kd.C_below hC (hk.to (Nat.le_refl _) (fun _ h => h.elim))
 obtain ⟨hc, hf, _, hx, hh⟩ := okF_of hok
 refine enter (args := [Value.agg (([Value.int .i64 c, Value.int .i64 f, Value.int .i64 l, Value.int .i64 x, Value.int .i64 h] ++ b16 s ++ b16 d)).toArray, Value.slice A ls.length cap]) (n := 34) Try.func40 body40 rfl rfl rfl ?_
 intro a hE
 refine c_reg R40_0_l ?_
 refine p_cons (s_box (pl P40_0 0) hE wn_none rfl rfl ?_)
 clear hE a; intro g1 w2 z3 B_g1 hk a hE
 replace B_g1 : w2.heap[g1]? = some (.cells (([Value.int .i64 c, Value.int .i64 f, Value.int .i64 l, Value.int .i64 x, Value.int .i64 h] ++ b16 s ++ b16 d)).toArray 27 (0, 0)) := B_g1
 have z_0_g1 := Nat.le_trans K_0.kept.1 z3
 replace K_0 := K_0.then_ hk (fun _ h => h.elim)
 clear hk
 refine qn hE (rc (pl P40_0 1) (st_assign rfl) (rc (pl P40_0 2) (st_assign rfl) rn)) ?_; clear hE a; intro a hE
 refine p_nil (x_norm (c_reg R40_1_l ?_))
 refine q0 (pl P40_1 0) hE (st_fieldAddr Try.underlying27 rfl tS3 rfl rfl) ?_; clear hE a; intro a hE
 refine p_cons (s_store (off := 2) (k := 1) (cs' := (([Value.int .i64 c, Value.int .i64 f, Value.int .i64 0, Value.int .i64 x, Value.int .i64 h] ++ b16 s ++ b16 d)).toArray) (pl P40_1 1) hE wn_none tS3 rfl rfl rfl rfl B_g1 (Nat.le_of_ble_eq_true rfl) rfl ?_)
 intro w4 B_g1' hk
 replace K_0 := K_0.then_ hk (fun k h => by rw [show k = g1 from h]; exact Or.inr z_0_g1)
 replace B_g1 := B_g1'
 clear hk
 refine p_nil (x_norm (wp_seq (c_reg R40_2_l ?_)))
 refine q0 (pl P40_2 0) hE (st_loadN (off := 0) (k := 37) (vs := ([Value.int .i64 c, Value.int .i64 f, Value.int .i64 0, Value.int .i64 x, Value.int .i64 h] ++ b16 s ++ b16 d)) tA27 tS27 rfl B_g1 rfl rfl) ?_; clear hE a; intro a hE
 refine p_cons (s_call (xs := [Operand.tmp 11]) (args := [Value.agg (([Value.int .i64 c, Value.int .i64 f, Value.int .i64 0, Value.int .i64 x, Value.int .i64 h] ++ b16 s ++ b16 d)).toArray]) (pl P40_2 1) hE wn_none rfl rfl Try.func82 cl82 (check_any c f 0 x h s d 0 (by rw [hok]; rfl) _) ?_)
 rintro e w5 ⟨rfl, hk⟩
 replace B_g1 := kp_blk B_g1 hk (fun h => h)
 replace K_0 := K_0.then_ hk (fun _ h => h.elim)
 refine ⟨_, rfl, ?_⟩; clear hE a; intro a hE
 refine q0 (pl P40_2 2) hE (st_assign rfl) ?_; clear hE a; intro a hE
 refine p_nil (x_norm (c_reg R40_3_l ?_))
 refine qn hE (rc (pl P40_3 0) (st_move rfl) (rc (pl P40_3 1) (st_neq (b := false) rfl rfl (by decide)) rn)) ?_; clear hE a; intro a hE
 refine p_nil (x_norm ?_)
 refine c_cond (t := false) hE rfl ?_
 refine wp_skip (x_norm (c_reg R40_5_l ?_))
 refine q0 (pl P40_5 0) hE (st_move rfl) ?_; clear hE a; intro a hE
 have hnb_g1 := blk_lt B_g1
 have hnz_0 := K_0.kept.1
 refine p_cons (s_call (xs := [Operand.tmp 16]) (args := [Value.slice A ls.length cap]) (pl P40_5 1) hE wn_none rfl rfl Try.func70 cl70 (concat_any A ls.length cap ls rfl _ (F_ls _ K_0) hlc (by omega) (by omega)) ?_)
 rintro e w9 ⟨A7, c8, rfl, O_q6, hk⟩
 replace B_g1 := kp_blk B_g1 hk (fun h => h)
 replace K_0 := K_0.then_ hk (fun _ h => h.elim)
 have Nb_q6_g1 : ¬ OB A7 g1 := fun h => by have := (own_ob O_q6 h).1; have := hnb_g1; omega
 have Z_0_q6 : ∀ k, OB A7 k → (fun _ => False) k ∨ w.heap.size ≤ k := fun k h => .inr (by have := (own_ob O_q6 h).1; have := hnz_0; omega)
 replace O_q6 := own_lower O_q6 hnz_0
 refine ⟨_, rfl, ?_⟩; clear hE a; intro a hE
 refine q0 (pl P40_5 2) hE (st_assign rfl) ?_; clear hE a; intro a hE
 refine p_nil (x_norm (wp_seq (c_reg R40_6_l ?_)))
 refine qn hE (rc (pl P40_6 0) (st_move rfl) (rc (pl P40_6 1) (st_len Try.underlying33 rfl) (rc (pl P40_6 2) (st_gtr (b := true) rfl rfl (decide_eq_true (by omega))) rn))) ?_; clear hE a; intro a hE
 refine p_nil (x_norm ?_)
 refine c_cond (t := true) hE rfl ?_
 refine c_reg R40_7_l ?_
 refine qn hE (rc (pl P40_7 0) (st_assign rfl) (rc (pl P40_7 1) (st_assign rfl) rn)) ?_; clear hE a; intro a hE
 refine p_nil (x_norm (wp_ret (x_ret ?_)))
 refine ret_list (rs := [.tmp 4, .tmp 5]) (vs := [Value.slice none 0 0, Value.int .i64 2]) rfl hE (.tmp rfl (.tmp rfl .nil)) rfl ?_
 exact ⟨rfl, K_0⟩
theorem P40_8 : (List.range (regOf Try.f40 8).size).map (pj (regOf Try.f40 8)) = [zz 21 (.move (.tmp 7)) 33, zz 22 (.call { callee := .builtin .len, args := #[.tmp 21], argTypes := #[33] }) 3, zz 23 (.fieldAddr 27 (.tmp 2) 2) 0, some (none, .store 3 (.tmp 23) (.tmp 22), 0, none)] := by kernel_rfl
theorem P40_9 : (List.range (regOf Try.f40 9).size).map (pj (regOf Try.f40 9)) = [zz 25 (.load 27 (.tmp 2)) 27, zz 26 (.call { callee := .value (.func 83), args := #[.tmp 25], argTypes := #[27] }) 60, zz 24 (.move (.tmp 26)) 60, zz 27 (.extract (.tmp 24) 0) 33, zz 28 (.extract (.tmp 24) 1) 36, zz 8 (.assign (.tmp 27)) 33, zz 9 (.assign (.tmp 28)) 36] := by kernel_rfl
theorem cl83 : callable Try.f83 = true := by kernel_rfl
theorem P40_10 : (List.range (regOf Try.f40 10).size).map (pj (regOf Try.f40 10)) = [zz 29 (.move (.tmp 8)) 33, zz 30 (.move (.tmp 7)) 33, zz 31 (.buildSlice 86 2 #[(0, .tmp 29), (1, .tmp 30)]) 86, zz 32 (.call { callee := .value (.func 70), args := #[.tmp 31], argTypes := #[86] }) 33, zz 33 (.move (.tmp 9)) 36, zz 4 (.assign (.tmp 32)) 33, zz 5 (.assign (.tmp 33)) 36] := by kernel_rfl
set_option maxHeartbeats 4000000 in
theorem with_ok (c f l x h : Int) (s d : Nat → Int) (A : Option Addr) (cap : Nat) (ls : List (List Int)) (hok : okF c f 0 x h = true) (hl : ¬ 1240 < ls.flatten.length) (w : World) (hC : Kd.C (Kd.slice 5 (Kd.int .u8)) w A ls.length ls) (hlc : ls.length ≤ cap) (hm : ls.flatten.length ≤ 1000000) (hml : ls.length ≤ 1000000) : Calls Try.prog 40 #[Value.agg (([Value.int .i64 c, Value.int .i64 f, Value.int .i64 l, Value.int .i64 x, Value.int .i64 h] ++ b16 s ++ b16 d)).toArray, .slice A ls.length cap] w fun e w' => ∃ A' c', e = .returned (.tuple #[.slice A' (encF c f (ls.flatten.length : Int) x h s d ++ ls.flatten).length c', .int .i64 0]) ∧ w'.ownsRow w.heap.size 5 1 (.slice A' (encF c f (ls.flatten.length : Int) x h s d ++ ls.flatten).length c') (encF c f (ls.flatten.length : Int) x h s d ++ ls.flatten).length (encs (Value.int .u8) (encF c f (ls.flatten.length : Int) x h s d ++ ls.flatten)) ∧ Kp w w' (fun _ => False) := by
 have K_0 := Kp.refl w (fun _ => False)
 have F_ls : ∀ W', Kp w W' (fun _ => False) → Kd.C (Kd.slice 5 (Kd.int .u8)) W' A ls.length ls := fun W' hk => Kd.C_below hC (hk.to (Nat.le_refl _) (fun _ h => h.elim))
 obtain ⟨hc, hf, _, hx, hh⟩ := okF_of hok
 refine enter (args := [Value.agg (([Value.int .i64 c, Value.int .i64 f, Value.int .i64 l, Value.int .i64 x, Value.int .i64 h] ++ b16 s ++ b16 d)).toArray, Value.slice A ls.length cap]) (n := 34) Try.func40 body40 rfl rfl rfl ?_
 intro a hE
 refine c_reg R40_0_l ?_
 refine p_cons (s_box (pl P40_0 0) hE wn_none rfl rfl ?_)
 clear hE a; intro g1 w2 z3 B_g1 hk a hE
 replace B_g1 : w2.heap[g1]? = some (.cells (([Value.int .i64 c, Value.int .i64 f, Value.int .i64 l, Value.int .i64 x, Value.int .i64 h] ++ b16 s ++ b16 d)).toArray 27 (0, 0)) := B_g1
 have z_0_g1 := Nat.le_trans K_0.kept.1 z3
 replace K_0 := K_0.then_ hk (fun _ h => h.elim)
 clear hk
 refine qn hE (rc (pl P40_0 1) (st_assign rfl) (rc (pl P40_0 2) (st_assign rfl) rn)) ?_; clear hE a; intro a hE
 refine p_nil (x_norm (c_reg R40_1_l ?_))
 refine q0 (pl P40_1 0) hE (st_fieldAddr Try.underlying27 rfl tS3 rfl rfl) ?_; clear hE a; intro a hE
 refine p_cons (s_store (off := 2) (k := 1) (cs' := (([Value.int .i64 c, Value.int .i64 f, Value.int .i64 0, Value.int .i64 x, Value.int .i64 h] ++ b16 s ++ b16 d)).toArray) (pl P40_1 1) hE wn_none tS3 rfl rfl rfl rfl B_g1 (Nat.le_of_ble_eq_true rfl) rfl ?_)
 intro w4 B_g1' hk
 replace K_0 := K_0.then_ hk (fun k h => by rw [show k = g1 from h]; exact Or.inr z_0_g1)
 replace B_g1 := B_g1'
 clear hk
 refine p_nil (x_norm (wp_seq (c_reg R40_2_l ?_)))
 refine q0 (pl P40_2 0) hE (st_loadN (off := 0) (k := 37) (vs := ([Value.int .i64 c, Value.int .i64 f, Value.int .i64 0, Value.int .i64 x, Value.int .i64 h] ++ b16 s ++ b16 d)) tA27 tS27 rfl B_g1 rfl rfl) ?_; clear hE a; intro a hE
 refine p_cons (s_call (xs := [Operand.tmp 11]) (args := [Value.agg (([Value.int .i64 c, Value.int .i64 f, Value.int .i64 0, Value.int .i64 x, Value.int .i64 h] ++ b16 s ++ b16 d)).toArray]) (pl P40_2 1) hE wn_none rfl rfl Try.func82 cl82 (check_any c f 0 x h s d 0 (by rw [hok]; rfl) _) ?_)
 rintro e w5 ⟨rfl, hk⟩
 replace B_g1 := kp_blk B_g1 hk (fun h => h)
 replace K_0 := K_0.then_ hk (fun _ h => h.elim)
 refine ⟨_, rfl, ?_⟩; clear hE a; intro a hE
 refine q0 (pl P40_2 2) hE (st_assign rfl) ?_; clear hE a; intro a hE
 refine p_nil (x_norm (c_reg R40_3_l ?_))
 refine qn hE (rc (pl P40_3 0) (st_move rfl) (rc (pl P40_3 1) (st_neq (b := false) rfl rfl (by decide)) rn)) ?_; clear hE a; intro a hE
 refine p_nil (x_norm ?_)
 refine c_cond (t := false) hE rfl ?_
 refine wp_skip (x_norm (c_reg R40_5_l ?_))
 refine q0 (pl P40_5 0) hE (st_move rfl) ?_; clear hE a; intro a hE
 have hnb_g1 := blk_lt B_g1
 have hnz_0 := K_0.kept.1
 refine p_cons (s_call (xs := [Operand.tmp 16]) (args := [Value.slice A ls.length cap]) (pl P40_5 1) hE wn_none rfl rfl Try.func70 cl70 (concat_any A ls.length cap ls rfl _ (F_ls _ K_0) hlc (by omega) (by omega)) ?_)
 rintro e w9 ⟨A7, c8, rfl, O_q6, hk⟩
 replace B_g1 := kp_blk B_g1 hk (fun h => h)
 replace K_0 := K_0.then_ hk (fun _ h => h.elim)
 have Nb_q6_g1 : ¬ OB A7 g1 := fun h => by have := (own_ob O_q6 h).1; have := hnb_g1; omega
 have Z_0_q6 : ∀ k, OB A7 k → (fun _ => False) k ∨ w.heap.size ≤ k := fun k h => .inr (by have := (own_ob O_q6 h).1; have := hnz_0; omega)
 replace O_q6 := own_lower O_q6 hnz_0
 refine ⟨_, rfl, ?_⟩; clear hE a; intro a hE
 refine q0 (pl P40_5 2) hE (st_assign rfl) ?_; clear hE a; intro a hE
 refine p_nil (x_norm (wp_seq (c_reg R40_6_l ?_)))
 refine qn hE (rc (pl P40_6 0) (st_move rfl) (rc (pl P40_6 1) (st_len Try.underlying33 rfl) (rc (pl P40_6 2) (st_gtr (b := false) rfl rfl (decide_eq_false (by omega))) rn))) ?_; clear hE a; intro a hE
 refine p_nil (x_norm ?_)
 refine c_cond (t := false) hE rfl ?_
 refine wp_skip (x_norm (c_reg R40_8_l ?_))
 refine qn hE (rc (pl P40_8 0) (st_move rfl) (rc (pl P40_8 1) (st_len Try.underlying33 rfl) (rc (pl P40_8 2) (st_fieldAddr Try.underlying27 rfl tS3 rfl rfl) rn))) ?_; clear hE a; intro a hE
 refine p_cons (s_store (off := 2) (k := 1) (cs' := (([Value.int .i64 c, Value.int .i64 f, Value.int .i64 (ls.flatten.length : Int), Value.int .i64 x, Value.int .i64 h] ++ b16 s ++ b16 d)).toArray) (pl P40_8 3) hE wn_none tS3 rfl rfl rfl rfl B_g1 (Nat.le_of_ble_eq_true rfl) rfl ?_)
 intro w10 B_g1' hk
 replace O_q6 := own_keep O_q6 hk (fun k hk2 h2 => Nb_q6_g1 (by rw [show k = g1 from h2] at hk2; exact hk2))
 replace K_0 := K_0.then_ hk (fun k h => by rw [show k = g1 from h]; exact Or.inr z_0_g1)
 replace B_g1 := B_g1'
 clear hk
 refine p_nil (x_norm (c_reg R40_9_l ?_))
 refine q0 (pl P40_9 0) hE (st_loadN (off := 0) (k := 37) (vs := ([Value.int .i64 c, Value.int .i64 f, Value.int .i64 (ls.flatten.length : Int), Value.int .i64 x, Value.int .i64 h] ++ b16 s ++ b16 d)) tA27 tS27 rfl B_g1 rfl rfl) ?_; clear hE a; intro a hE
 have hnb_g1 := blk_lt B_g1
 have hnz_0 := K_0.kept.1
 have hno_q6 := fun k (h : OB A7 k) => (own_ob O_q6 h).2
 refine p_cons (s_call (xs := [Operand.tmp 25]) (args := [Value.agg (([Value.int .i64 c, Value.int .i64 f, Value.int .i64 (ls.flatten.length : Int), Value.int .i64 x, Value.int .i64 h] ++ b16 s ++ b16 d)).toArray]) (pl P40_9 1) hE wn_none rfl rfl Try.func83 cl83 (enc_ok c f (ls.flatten.length : Int) x h s d (okF_mk hc hf (by omega) hx hh) _) ?_)
 rintro e w14 ⟨A12, c13, rfl, O_q11, hk⟩
 replace B_g1 := kp_blk B_g1 hk (fun h => h)
 replace O_q6 := own_keep O_q6 hk (fun _ _ h => h)
 replace K_0 := K_0.then_ hk (fun _ h => h.elim)
 have Nb_q11_g1 : ¬ OB A12 g1 := fun h => by have := (own_ob O_q11 h).1; have := hnb_g1; omega
 have Z_0_q11 : ∀ k, OB A12 k → (fun _ => False) k ∨ w.heap.size ≤ k := fun k h => .inr (by have := (own_ob O_q11 h).1; have := hnz_0; omega)
 have NN_q11_q6 : ∀ k, OB A12 k → ¬ OB A7 k := fun k h h2 => by have := (own_ob O_q11 h).1; have := hno_q6 k h2; omega
 have NN_q6_q11 : ∀ k, OB A7 k → ¬ OB A12 k := fun k h h2 => NN_q11_q6 k h2 h
 replace O_q11 := own_lower O_q11 hnz_0
 refine ⟨_, rfl, ?_⟩; clear hE a; intro a hE
 refine qn hE (rc (pl P40_9 2) (st_move rfl) (rc (pl P40_9 3) (st_extract rfl rfl) (rc (pl P40_9 4) (st_extract rfl rfl) (rc (pl P40_9 5) (st_assign rfl) (rc (pl P40_9 6) (st_assign rfl) rn))))) ?_; clear hE a; intro a hE
 refine p_nil (x_norm (c_reg R40_10_l ?_))
 refine qn hE (rc (pl P40_10 0) (st_move rfl) (rc (pl P40_10 1) (st_move rfl) rn)) ?_; clear hE a; intro a hE
 refine p_cons (s_row (xs := [(0, Operand.tmp 29), (1, Operand.tmp 30)]) (vs := [(0, Value.slice A12 40 c13), (1, Value.slice A7 ls.flatten.length c8)]) (cs := #[Value.slice A12 40 c13, Value.slice A7 ls.flatten.length c8]) (pl P40_10 2) hE wn_none rfl Try.underlying86 rfl (by kernel_rfl) ?_)
 clear hE a; intro g15 w16 z17 B_g15 hk a hE
 have n_g1_g15 : g1 ≠ g15 := ne_new B_g1 z17
 have z_0_g15 := Nat.le_trans K_0.kept.1 z17
 have Nb_q6_g15 : ¬ OB A7 g15 := fun h => by have := (own_ob O_q6 h).2; omega
 have Nb_q11_g15 : ¬ OB A12 g15 := fun h => by have := (own_ob O_q11 h).2; omega
 replace B_g1 := kp_blk B_g1 hk (fun h => h)
 replace O_q6 := own_keep O_q6 hk (fun _ _ h => h)
 replace O_q11 := own_keep O_q11 hk (fun _ _ h => h)
 replace K_0 := K_0.then_ hk (fun _ h => h.elim)
 clear hk
 have hnb_g1 := blk_lt B_g1
 have hnb_g15 := blk_lt B_g15
 have hnz_0 := K_0.kept.1
 have hno_q6 := fun k (h : OB A7 k) => (own_ob O_q6 h).2
 have hno_q11 := fun k (h : OB A12 k) => (own_ob O_q11 h).2
 have hrows := C_rows (e := 5) [(A12, c13, (encF c f (ls.flatten.length : Int) x h s d)), (A7, c8, ls.flatten)] B_g15 rfl (Nat.le_of_ble_eq_true rfl) (by intro r hr; simp only [List.mem_cons, List.not_mem_nil, or_false] at hr; rcases hr with rfl | rfl; exact ⟨(own_caps O_q11).1, (own_told O_q11)⟩; exact ⟨(own_caps O_q6).1, (own_told O_q6)⟩)
 refine p_cons (s_call (xs := [Operand.tmp 31]) (args := [Value.slice (some ⟨g15, 0, none⟩) 2 2]) (pl P40_10 3) hE wn_none rfl rfl Try.func70 cl70 (concat_two (some ⟨g15, 0, none⟩) 2 (encF c f (ls.flatten.length : Int) x h s d) ls.flatten _ hrows (Nat.le_of_ble_eq_true rfl) (by rw [List.length_append, encF_len]; omega)) ?_)
 rintro e w21 ⟨A19, c20, rfl, O_q18, hk⟩
 replace B_g1 := kp_blk B_g1 hk (fun h => h)
 replace B_g15 := kp_blk B_g15 hk (fun h => h)
 replace O_q6 := own_keep O_q6 hk (fun _ _ h => h)
 replace O_q11 := own_keep O_q11 hk (fun _ _ h => h)
 replace K_0 := K_0.then_ hk (fun _ h => h.elim)
 have Nb_q18_g1 : ¬ OB A19 g1 := fun h => by have := (own_ob O_q18 h).1; have := hnb_g1; omega
 have Nb_q18_g15 : ¬ OB A19 g15 := fun h => by have := (own_ob O_q18 h).1; have := hnb_g15; omega
 have Z_0_q18 : ∀ k, OB A19 k → (fun _ => False) k ∨ w.heap.size ≤ k := fun k h => .inr (by have := (own_ob O_q18 h).1; have := hnz_0; omega)
 have NN_q18_q6 : ∀ k, OB A19 k → ¬ OB A7 k := fun k h h2 => by have := (own_ob O_q18 h).1; have := hno_q6 k h2; omega
 have NN_q6_q18 : ∀ k, OB A7 k → ¬ OB A19 k := fun k h h2 => NN_q18_q6 k h2 h
 have NN_q18_q11 : ∀ k, OB A19 k → ¬ OB A12 k := fun k h h2 => by have := (own_ob O_q18 h).1; have := hno_q11 k h2; omega
 have NN_q11_q18 : ∀ k, OB A12 k → ¬ OB A19 k := fun k h h2 => NN_q18_q11 k h2 h
 replace O_q18 := own_lower O_q18 hnz_0
 refine ⟨_, rfl, ?_⟩; clear hE a; intro a hE
 refine qn hE (rc (pl P40_10 4) (st_move rfl) (rc (pl P40_10 5) (st_assign rfl) (rc (pl P40_10 6) (st_assign rfl) rn))) ?_; clear hE a; intro a hE
 refine p_nil (x_norm (wp_ret ?_))
 refine ret_list (rs := [.tmp 4, .tmp 5]) (vs := [Value.slice A19 (((encF c f (ls.flatten.length : Int) x h s d) ++ ls.flatten).length) c20, Value.int .i64 0]) rfl hE (.tmp rfl (.tmp rfl .nil)) rfl ?_
 exact ⟨_, _, rfl, O_q18, K_0⟩
end Go.Proofs.Ytijfocnneccccaa.Hw
