/- header.With. -/
import Derived.Test.YtndiddfleidnaaaHdr
set_option maxRecDepth 100000
set_option linter.unusedVariables false
set_option linter.unusedSimpArgs false
namespace Go.Proofs.Ytndiddfleidnaaa.Hw
open Go.RowKit Go.Proofs.YtndiddfleidnaaaW.PrintWords Go.Proofs.Ytndiddfleidnaaa.Ds Go.Proofs.Ytndiddfleidnaaa.Cc Go.Proofs.Ytndiddfleidnaaa.Hd
open Go.Proofs.Ytndiddfleidnaaa.Pk (Kp fitsF spanF putF digF joinF)
theorem concat_two (A : Option Addr) (c : Nat) (a b : List Int) (w : World) (h : Kd.C (Kd.slice 5 (Kd.int .u8)) w A 2 [a, b]) (hc : 2 ≤ c) (hm : (a ++ b).length ≤ 70368744177664) : Calls Try.prog 71 #[.slice A 2 c] w fun e w' => ∃ A' c', e = .returned (.slice A' (a ++ b).length c') ∧ w'.ownsRow w.heap.size 5 1 (.slice A' (a ++ b).length c') (a ++ b).length (encs (Value.int .u8) (a ++ b)) ∧ Kp w w' (fun _ => False) := by
  have e : [a, b].flatten = a ++ b := by simp
  have := concat_any A 2 c [a, b] rfl w h hc (by rw [e]; exact hm) (Nat.le_of_ble_eq_true rfl)
  rwa [e] at this
theorem encF_len (c f l x h : Int) (s d : Nat → Int) : (encF c f l x h s d).length = 40 := rfl
theorem R24_0_l : List.range (regOf Try.f24 0).size = [0, 1, 2] := by kernel_rfl
theorem R24_1_l : List.range (regOf Try.f24 1).size = [0, 1] := by kernel_rfl
theorem R24_2_l : List.range (regOf Try.f24 2).size = [0, 1, 2] := by kernel_rfl
theorem R24_3_l : List.range (regOf Try.f24 3).size = [0, 1] := by kernel_rfl
theorem R24_4_l : List.range (regOf Try.f24 4).size = [0, 1, 2] := by kernel_rfl
theorem R24_5_l : List.range (regOf Try.f24 5).size = [0, 1, 2] := by kernel_rfl
theorem R24_6_l : List.range (regOf Try.f24 6).size = [0, 1, 2] := by kernel_rfl
theorem R24_7_l : List.range (regOf Try.f24 7).size = [0, 1] := by kernel_rfl
theorem R24_8_l : List.range (regOf Try.f24 8).size = [0, 1, 2, 3] := by kernel_rfl
theorem R24_9_l : List.range (regOf Try.f24 9).size = [0, 1, 2, 3, 4, 5, 6] := by kernel_rfl
theorem R24_10_l : List.range (regOf Try.f24 10).size = [0, 1, 2, 3, 4, 5, 6] := by kernel_rfl
theorem body24 : Try.f24.body = some (.seq (.region 0 (regOf Try.f24 0) false) (.seq (.region 1 (regOf Try.f24 1) false) (.seq (.seq (.region 2 (regOf Try.f24 2) false) (.seq (.region 3 (regOf Try.f24 3) false) (.cond (Operand.tmp 14) (.seq (.region 4 (regOf Try.f24 4) false) (.ret)) (.skip)))) (.seq (.region 5 (regOf Try.f24 5) false) (.seq (.seq (.region 6 (regOf Try.f24 6) false) (.cond (Operand.tmp 20) (.seq (.region 7 (regOf Try.f24 7) false) (.ret)) (.skip))) (.seq (.region 8 (regOf Try.f24 8) false) (.seq (.region 9 (regOf Try.f24 9) false) (.seq (.region 10 (regOf Try.f24 10) false) (.ret))))))))) := by kernel_rfl
theorem p24_0_0 : pj (regOf Try.f24 0) 0 = some (some 2, Op.box 27 (Operand.tmp 0), 0, none) := by kernel_rfl
theorem p24_0_1 : pj (regOf Try.f24 0) 1 = some (some 4, Op.assign (Operand.const (Value.slice none 0 0)), 36, none) := by kernel_rfl
theorem p24_0_2 : pj (regOf Try.f24 0) 2 = some (some 5, Op.assign (Operand.const (Value.int IntKind.i64 0)), 29, none) := by kernel_rfl
theorem p24_1_0 : pj (regOf Try.f24 1) 0 = some (some 10, Op.fieldAddr 27 (Operand.tmp 2) 2, 0, none) := by kernel_rfl
theorem tS3 : (Try.prog.info? 3).map (·.size) = some 1 := by kernel_rfl
theorem p24_1_1 : pj (regOf Try.f24 1) 1 = some (none, Op.store 3 (Operand.tmp 10) (Operand.const (Value.int IntKind.i64 0)), 0, none) := by kernel_rfl
theorem p24_2_0 : pj (regOf Try.f24 2) 0 = some (some 11, Op.load 27 (Operand.tmp 2), 27, none) := by kernel_rfl
theorem tA27 : (Try.prog.underlying 27).map aggD = some true := by kernel_rfl
theorem tS27 : (Try.prog.info? 27).map (·.size) = some 37 := by kernel_rfl
theorem p24_2_1 : pj (regOf Try.f24 2) 1 = some (some 12, Op.call { callee := Callee.value (Operand.func 16), args := #[Operand.tmp 11], argTypes := #[27] }, 29, none) := by kernel_rfl
theorem cl16 : callable Try.f16 = true := by kernel_rfl
theorem p24_2_2 : pj (regOf Try.f24 2) 2 = some (some 6, Op.assign (Operand.tmp 12), 29, none) := by kernel_rfl
theorem p24_3_0 : pj (regOf Try.f24 3) 0 = some (some 13, Op.move (Operand.tmp 6), 29, none) := by kernel_rfl
theorem p24_3_1 : pj (regOf Try.f24 3) 1 = some (some 14, Op.binOp BinOp.neq 29 (Operand.tmp 13) (Operand.const (Value.int IntKind.i64 0)) 29, 4, none) := by kernel_rfl
theorem p24_4_0 : pj (regOf Try.f24 4) 0 = some (some 15, Op.move (Operand.tmp 6), 29, none) := by kernel_rfl
theorem p24_4_1 : pj (regOf Try.f24 4) 1 = some (some 4, Op.assign (Operand.const (Value.slice none 0 0)), 36, none) := by kernel_rfl
theorem p24_4_2 : pj (regOf Try.f24 4) 2 = some (some 5, Op.assign (Operand.tmp 15), 29, none) := by kernel_rfl
set_option maxHeartbeats 4000000 in
theorem with_bad (c f l x h : Int) (s d : Nat → Int) (A : Option Addr) (cap : Nat) (ls : List (List Int)) (hok : okF c f 0 x h = false) (w : World) (hC : Kd.C (Kd.slice 5 (Kd.int .u8)) w A ls.length ls) (hlc : ls.length ≤ cap) (hm : ls.flatten.length ≤ 1000000) (hml : ls.length ≤ 1000000) : Calls Try.prog 24 #[Value.agg (([Value.int .i64 c, Value.int .i64 f, Value.int .i64 l, Value.int .i64 x, Value.int .i64 h] ++ b16 s ++ b16 d)).toArray, .slice A ls.length cap] w fun e w' => e = .returned (.tuple #[.slice none 0 0, .int .i64 1]) ∧ Kp w w' (fun _ => False) := by
  have K_0 := Kp.refl w (fun _ => False)
  have F_ls : ∀ W', Kp w W' (fun _ => False) → Kd.C (Kd.slice 5 (Kd.int .u8)) W' A ls.length ls := fun W' hk => Kd.C_below hC (hk.to (Nat.le_refl _) (fun _ h => h.elim))
  refine enter (args := [Value.agg (([Value.int .i64 c, Value.int .i64 f, Value.int .i64 l, Value.int .i64 x, Value.int .i64 h] ++ b16 s ++ b16 d)).toArray, Value.slice A ls.length cap]) (n := 34) Try.func24 body24 rfl rfl rfl ?_
  intro a hE
  refine c_reg R24_0_l ?_
  refine p_cons (s_box p24_0_0 hE wn_none rfl rfl ?_)
  clear hE a; intro g1 w2 z3 B_g1 hk a hE
  replace B_g1 : w2.heap[g1]? = some (.cells (([Value.int .i64 c, Value.int .i64 f, Value.int .i64 l, Value.int .i64 x, Value.int .i64 h] ++ b16 s ++ b16 d)).toArray 27 (0, 0)) := B_g1
  have z_0_g1 := Nat.le_trans K_0.kept.1 z3
  replace K_0 := K_0.then_ hk (fun _ h => h.elim)
  clear hk
  refine p_cons (s_still p24_0_1 hE wn_none rfl (st_assign rfl) ?_)
  clear hE a; intro a hE
  refine p_cons (s_still p24_0_2 hE wn_none rfl (st_assign rfl) ?_)
  clear hE a; intro a hE
  refine p_nil ?_
  refine x_norm ?_
  refine c_reg R24_1_l ?_
  refine p_cons (s_still p24_1_0 hE wn_none rfl (st_fieldAddr Try.underlying27 rfl tS3 rfl rfl) ?_)
  clear hE a; intro a hE
  refine p_cons (s_store (off := 2) (k := 1) (cs' := (([Value.int .i64 c, Value.int .i64 f, Value.int .i64 0, Value.int .i64 x, Value.int .i64 h] ++ b16 s ++ b16 d)).toArray) p24_1_1 hE wn_none tS3 rfl rfl rfl rfl B_g1 (Nat.le_of_ble_eq_true rfl) rfl ?_)
  intro w4 B_g1' hk
  replace K_0 := K_0.then_ hk (fun k h => by rw [show k = g1 from h]; exact Or.inr z_0_g1)
  replace B_g1 := B_g1'
  clear hk
  refine p_nil ?_
  refine x_norm ?_
  refine wp_seq ?_
  refine c_reg R24_2_l ?_
  refine p_cons (s_still p24_2_0 hE wn_none rfl (st_loadN (off := 0) (k := 37) (vs := ([Value.int .i64 c, Value.int .i64 f, Value.int .i64 0, Value.int .i64 x, Value.int .i64 h] ++ b16 s ++ b16 d)) tA27 tS27 rfl B_g1 rfl rfl) ?_)
  clear hE a; intro a hE
  refine p_cons (s_call (xs := [Operand.tmp 11]) (args := [Value.agg (([Value.int .i64 c, Value.int .i64 f, Value.int .i64 0, Value.int .i64 x, Value.int .i64 h] ++ b16 s ++ b16 d)).toArray]) p24_2_1 hE wn_none rfl rfl Try.func16 cl16 (check_any c f 0 x h s d 1 (by rw [hok]; rfl) _) ?_)
  rintro e w5 ⟨rfl, hk⟩
  replace B_g1 := kp_blk B_g1 hk (fun h => h)
  replace K_0 := K_0.then_ hk (fun _ h => h.elim)
  refine ⟨_, rfl, ?_⟩
  clear hE a; intro a hE
  refine p_cons (s_still p24_2_2 hE wn_none rfl (st_assign rfl) ?_)
  clear hE a; intro a hE
  refine p_nil ?_
  refine x_norm ?_
  refine c_reg R24_3_l ?_
  refine p_cons (s_still p24_3_0 hE wn_none rfl (st_move rfl) ?_)
  clear hE a; intro a hE
  refine p_cons (s_still p24_3_1 hE wn_none rfl (st_neq (b := true) rfl rfl (by decide)) ?_)
  clear hE a; intro a hE
  refine p_nil ?_
  refine x_norm ?_
  refine c_cond (t := true) hE rfl ?_
  refine c_reg R24_4_l ?_
  refine p_cons (s_still p24_4_0 hE wn_none rfl (st_move rfl) ?_)
  clear hE a; intro a hE
  refine p_cons (s_still p24_4_1 hE wn_none rfl (st_assign rfl) ?_)
  clear hE a; intro a hE
  refine p_cons (s_still p24_4_2 hE wn_none rfl (st_assign rfl) ?_)
  clear hE a; intro a hE
  refine p_nil ?_
  refine x_norm ?_
  refine wp_ret ?_
  refine x_ret ?_
  refine ret_list (rs := [.tmp 4, .tmp 5]) (vs := [Value.slice none 0 0, Value.int .i64 1]) rfl hE (.tmp rfl (.tmp rfl .nil)) rfl ?_
  exact ⟨rfl, K_0⟩
theorem p24_5_0 : pj (regOf Try.f24 5) 0 = some (some 16, Op.move (Operand.tmp 1), 35, none) := by kernel_rfl
theorem p24_5_1 : pj (regOf Try.f24 5) 1 = some (some 17, Op.call { callee := Callee.value (Operand.func 71), args := #[Operand.tmp 16], argTypes := #[35] }, 36, none) := by kernel_rfl
theorem cl71 : callable Try.f71 = true := by kernel_rfl
theorem p24_5_2 : pj (regOf Try.f24 5) 2 = some (some 7, Op.assign (Operand.tmp 17), 36, none) := by kernel_rfl
theorem p24_6_0 : pj (regOf Try.f24 6) 0 = some (some 18, Op.move (Operand.tmp 7), 36, none) := by kernel_rfl
theorem p24_6_1 : pj (regOf Try.f24 6) 1 = some (some 19, Op.call { callee := Callee.builtin Builtin.len, args := #[Operand.tmp 18], argTypes := #[36] }, 3, none) := by kernel_rfl
theorem p24_6_2 : pj (regOf Try.f24 6) 2 = some (some 20, Op.binOp BinOp.gtr 3 (Operand.tmp 19) (Operand.const (Value.int IntKind.i64 1240)) 3, 4, none) := by kernel_rfl
theorem p24_7_0 : pj (regOf Try.f24 7) 0 = some (some 4, Op.assign (Operand.const (Value.slice none 0 0)), 36, none) := by kernel_rfl
theorem p24_7_1 : pj (regOf Try.f24 7) 1 = some (some 5, Op.assign (Operand.const (Value.int IntKind.i64 2)), 29, none) := by kernel_rfl
set_option maxHeartbeats 4000000 in
theorem with_long (c f l x h : Int) (s d : Nat → Int) (A : Option Addr) (cap : Nat) (ls : List (List Int)) (hok : okF c f 0 x h = true) (hl : 1240 < ls.flatten.length) (w : World) (hC : Kd.C (Kd.slice 5 (Kd.int .u8)) w A ls.length ls) (hlc : ls.length ≤ cap) (hm : ls.flatten.length ≤ 1000000) (hml : ls.length ≤ 1000000) : Calls Try.prog 24 #[Value.agg (([Value.int .i64 c, Value.int .i64 f, Value.int .i64 l, Value.int .i64 x, Value.int .i64 h] ++ b16 s ++ b16 d)).toArray, .slice A ls.length cap] w fun e w' => e = .returned (.tuple #[.slice none 0 0, .int .i64 2]) ∧ Kp w w' (fun _ => False) := by
  have K_0 := Kp.refl w (fun _ => False)
  have F_ls : ∀ W', Kp w W' (fun _ => False) → Kd.C (Kd.slice 5 (Kd.int .u8)) W' A ls.length ls := fun W' hk => Kd.C_below hC (hk.to (Nat.le_refl _) (fun _ h => h.elim))
  obtain ⟨hc, hf, _, hx, hh⟩ := okF_of hok
  refine enter (args := [Value.agg (([Value.int .i64 c, Value.int .i64 f, Value.int .i64 l, Value.int .i64 x, Value.int .i64 h] ++ b16 s ++ b16 d)).toArray, Value.slice A ls.length cap]) (n := 34) Try.func24 body24 rfl rfl rfl ?_
  intro a hE
  refine c_reg R24_0_l ?_
  refine p_cons (s_box p24_0_0 hE wn_none rfl rfl ?_)
  clear hE a; intro g1 w2 z3 B_g1 hk a hE
  replace B_g1 : w2.heap[g1]? = some (.cells (([Value.int .i64 c, Value.int .i64 f, Value.int .i64 l, Value.int .i64 x, Value.int .i64 h] ++ b16 s ++ b16 d)).toArray 27 (0, 0)) := B_g1
  have z_0_g1 := Nat.le_trans K_0.kept.1 z3
  replace K_0 := K_0.then_ hk (fun _ h => h.elim)
  clear hk
  refine p_cons (s_still p24_0_1 hE wn_none rfl (st_assign rfl) ?_)
  clear hE a; intro a hE
  refine p_cons (s_still p24_0_2 hE wn_none rfl (st_assign rfl) ?_)
  clear hE a; intro a hE
  refine p_nil ?_
  refine x_norm ?_
  refine c_reg R24_1_l ?_
  refine p_cons (s_still p24_1_0 hE wn_none rfl (st_fieldAddr Try.underlying27 rfl tS3 rfl rfl) ?_)
  clear hE a; intro a hE
  refine p_cons (s_store (off := 2) (k := 1) (cs' := (([Value.int .i64 c, Value.int .i64 f, Value.int .i64 0, Value.int .i64 x, Value.int .i64 h] ++ b16 s ++ b16 d)).toArray) p24_1_1 hE wn_none tS3 rfl rfl rfl rfl B_g1 (Nat.le_of_ble_eq_true rfl) rfl ?_)
  intro w4 B_g1' hk
  replace K_0 := K_0.then_ hk (fun k h => by rw [show k = g1 from h]; exact Or.inr z_0_g1)
  replace B_g1 := B_g1'
  clear hk
  refine p_nil ?_
  refine x_norm ?_
  refine wp_seq ?_
  refine c_reg R24_2_l ?_
  refine p_cons (s_still p24_2_0 hE wn_none rfl (st_loadN (off := 0) (k := 37) (vs := ([Value.int .i64 c, Value.int .i64 f, Value.int .i64 0, Value.int .i64 x, Value.int .i64 h] ++ b16 s ++ b16 d)) tA27 tS27 rfl B_g1 rfl rfl) ?_)
  clear hE a; intro a hE
  refine p_cons (s_call (xs := [Operand.tmp 11]) (args := [Value.agg (([Value.int .i64 c, Value.int .i64 f, Value.int .i64 0, Value.int .i64 x, Value.int .i64 h] ++ b16 s ++ b16 d)).toArray]) p24_2_1 hE wn_none rfl rfl Try.func16 cl16 (check_any c f 0 x h s d 0 (by rw [hok]; rfl) _) ?_)
  rintro e w5 ⟨rfl, hk⟩
  replace B_g1 := kp_blk B_g1 hk (fun h => h)
  replace K_0 := K_0.then_ hk (fun _ h => h.elim)
  refine ⟨_, rfl, ?_⟩
  clear hE a; intro a hE
  refine p_cons (s_still p24_2_2 hE wn_none rfl (st_assign rfl) ?_)
  clear hE a; intro a hE
  refine p_nil ?_
  refine x_norm ?_
  refine c_reg R24_3_l ?_
  refine p_cons (s_still p24_3_0 hE wn_none rfl (st_move rfl) ?_)
  clear hE a; intro a hE
  refine p_cons (s_still p24_3_1 hE wn_none rfl (st_neq (b := false) rfl rfl (by decide)) ?_)
  clear hE a; intro a hE
  refine p_nil ?_
  refine x_norm ?_
  refine c_cond (t := false) hE rfl ?_
  refine wp_skip ?_
  refine x_norm ?_
  refine c_reg R24_5_l ?_
  refine p_cons (s_still p24_5_0 hE wn_none rfl (st_move rfl) ?_)
  clear hE a; intro a hE
  have hnb_g1 := blk_lt B_g1
  have hnz_0 := K_0.kept.1
  refine p_cons (s_call (xs := [Operand.tmp 16]) (args := [Value.slice A ls.length cap]) p24_5_1 hE wn_none rfl rfl Try.func71 cl71 (concat_any A ls.length cap ls rfl _ (F_ls _ K_0) hlc (by omega) (by omega)) ?_)
  rintro e w9 ⟨A7, c8, rfl, O_q6, hk⟩
  replace B_g1 := kp_blk B_g1 hk (fun h => h)
  replace K_0 := K_0.then_ hk (fun _ h => h.elim)
  have Nb_q6_g1 : ¬ OB A7 g1 := fun h => by have := (own_ob O_q6 h).1; have := hnb_g1; omega
  have Z_0_q6 : ∀ k, OB A7 k → (fun _ => False) k ∨ w.heap.size ≤ k := fun k h => .inr (by have := (own_ob O_q6 h).1; have := hnz_0; omega)
  replace O_q6 := own_lower O_q6 hnz_0
  refine ⟨_, rfl, ?_⟩
  clear hE a; intro a hE
  refine p_cons (s_still p24_5_2 hE wn_none rfl (st_assign rfl) ?_)
  clear hE a; intro a hE
  refine p_nil ?_
  refine x_norm ?_
  refine wp_seq ?_
  refine c_reg R24_6_l ?_
  refine p_cons (s_still p24_6_0 hE wn_none rfl (st_move rfl) ?_)
  clear hE a; intro a hE
  refine p_cons (s_still p24_6_1 hE wn_none rfl (st_len Try.underlying36 rfl) ?_)
  clear hE a; intro a hE
  refine p_cons (s_still p24_6_2 hE wn_none rfl (st_gtr (b := true) rfl rfl (decide_eq_true (by omega))) ?_)
  clear hE a; intro a hE
  refine p_nil ?_
  refine x_norm ?_
  refine c_cond (t := true) hE rfl ?_
  refine c_reg R24_7_l ?_
  refine p_cons (s_still p24_7_0 hE wn_none rfl (st_assign rfl) ?_)
  clear hE a; intro a hE
  refine p_cons (s_still p24_7_1 hE wn_none rfl (st_assign rfl) ?_)
  clear hE a; intro a hE
  refine p_nil ?_
  refine x_norm ?_
  refine wp_ret ?_
  refine x_ret ?_
  refine ret_list (rs := [.tmp 4, .tmp 5]) (vs := [Value.slice none 0 0, Value.int .i64 2]) rfl hE (.tmp rfl (.tmp rfl .nil)) rfl ?_
  exact ⟨rfl, K_0⟩
theorem p24_8_0 : pj (regOf Try.f24 8) 0 = some (some 21, Op.move (Operand.tmp 7), 36, none) := by kernel_rfl
theorem p24_8_1 : pj (regOf Try.f24 8) 1 = some (some 22, Op.call { callee := Callee.builtin Builtin.len, args := #[Operand.tmp 21], argTypes := #[36] }, 3, none) := by kernel_rfl
theorem p24_8_2 : pj (regOf Try.f24 8) 2 = some (some 23, Op.fieldAddr 27 (Operand.tmp 2) 2, 0, none) := by kernel_rfl
theorem p24_8_3 : pj (regOf Try.f24 8) 3 = some (none, Op.store 3 (Operand.tmp 23) (Operand.tmp 22), 0, none) := by kernel_rfl
theorem p24_9_0 : pj (regOf Try.f24 9) 0 = some (some 25, Op.load 27 (Operand.tmp 2), 27, none) := by kernel_rfl
theorem p24_9_1 : pj (regOf Try.f24 9) 1 = some (some 26, Op.call { callee := Callee.value (Operand.func 19), args := #[Operand.tmp 25], argTypes := #[27] }, 37, none) := by kernel_rfl
theorem cl19 : callable Try.f19 = true := by kernel_rfl
theorem p24_9_2 : pj (regOf Try.f24 9) 2 = some (some 24, Op.move (Operand.tmp 26), 37, none) := by kernel_rfl
theorem p24_9_3 : pj (regOf Try.f24 9) 3 = some (some 27, Op.extract (Operand.tmp 24) 0, 36, none) := by kernel_rfl
theorem p24_9_4 : pj (regOf Try.f24 9) 4 = some (some 28, Op.extract (Operand.tmp 24) 1, 29, none) := by kernel_rfl
theorem p24_9_5 : pj (regOf Try.f24 9) 5 = some (some 8, Op.assign (Operand.tmp 27), 36, none) := by kernel_rfl
theorem p24_9_6 : pj (regOf Try.f24 9) 6 = some (some 9, Op.assign (Operand.tmp 28), 29, none) := by kernel_rfl
theorem p24_10_0 : pj (regOf Try.f24 10) 0 = some (some 29, Op.move (Operand.tmp 8), 36, none) := by kernel_rfl
theorem p24_10_1 : pj (regOf Try.f24 10) 1 = some (some 30, Op.move (Operand.tmp 7), 36, none) := by kernel_rfl
theorem p24_10_2 : pj (regOf Try.f24 10) 2 = some (some 31, Op.buildSlice 35 2 #[(0, Operand.tmp 29), (1, Operand.tmp 30)], 35, none) := by kernel_rfl
theorem p24_10_3 : pj (regOf Try.f24 10) 3 = some (some 32, Op.call { callee := Callee.value (Operand.func 71), args := #[Operand.tmp 31], argTypes := #[35] }, 36, none) := by kernel_rfl
theorem p24_10_4 : pj (regOf Try.f24 10) 4 = some (some 33, Op.move (Operand.tmp 9), 29, none) := by kernel_rfl
theorem p24_10_5 : pj (regOf Try.f24 10) 5 = some (some 4, Op.assign (Operand.tmp 32), 36, none) := by kernel_rfl
theorem p24_10_6 : pj (regOf Try.f24 10) 6 = some (some 5, Op.assign (Operand.tmp 33), 29, none) := by kernel_rfl
set_option maxHeartbeats 4000000 in
theorem with_ok (c f l x h : Int) (s d : Nat → Int) (A : Option Addr) (cap : Nat) (ls : List (List Int)) (hok : okF c f 0 x h = true) (hl : ¬ 1240 < ls.flatten.length) (w : World) (hC : Kd.C (Kd.slice 5 (Kd.int .u8)) w A ls.length ls) (hlc : ls.length ≤ cap) (hm : ls.flatten.length ≤ 1000000) (hml : ls.length ≤ 1000000) : Calls Try.prog 24 #[Value.agg (([Value.int .i64 c, Value.int .i64 f, Value.int .i64 l, Value.int .i64 x, Value.int .i64 h] ++ b16 s ++ b16 d)).toArray, .slice A ls.length cap] w fun e w' => ∃ A' c', e = .returned (.tuple #[.slice A' (encF c f (ls.flatten.length : Int) x h s d ++ ls.flatten).length c', .int .i64 0]) ∧ w'.ownsRow w.heap.size 5 1 (.slice A' (encF c f (ls.flatten.length : Int) x h s d ++ ls.flatten).length c') (encF c f (ls.flatten.length : Int) x h s d ++ ls.flatten).length (encs (Value.int .u8) (encF c f (ls.flatten.length : Int) x h s d ++ ls.flatten)) ∧ Kp w w' (fun _ => False) := by
  have K_0 := Kp.refl w (fun _ => False)
  have F_ls : ∀ W', Kp w W' (fun _ => False) → Kd.C (Kd.slice 5 (Kd.int .u8)) W' A ls.length ls := fun W' hk => Kd.C_below hC (hk.to (Nat.le_refl _) (fun _ h => h.elim))
  obtain ⟨hc, hf, _, hx, hh⟩ := okF_of hok
  refine enter (args := [Value.agg (([Value.int .i64 c, Value.int .i64 f, Value.int .i64 l, Value.int .i64 x, Value.int .i64 h] ++ b16 s ++ b16 d)).toArray, Value.slice A ls.length cap]) (n := 34) Try.func24 body24 rfl rfl rfl ?_
  intro a hE
  refine c_reg R24_0_l ?_
  refine p_cons (s_box p24_0_0 hE wn_none rfl rfl ?_)
  clear hE a; intro g1 w2 z3 B_g1 hk a hE
  replace B_g1 : w2.heap[g1]? = some (.cells (([Value.int .i64 c, Value.int .i64 f, Value.int .i64 l, Value.int .i64 x, Value.int .i64 h] ++ b16 s ++ b16 d)).toArray 27 (0, 0)) := B_g1
  have z_0_g1 := Nat.le_trans K_0.kept.1 z3
  replace K_0 := K_0.then_ hk (fun _ h => h.elim)
  clear hk
  refine p_cons (s_still p24_0_1 hE wn_none rfl (st_assign rfl) ?_)
  clear hE a; intro a hE
  refine p_cons (s_still p24_0_2 hE wn_none rfl (st_assign rfl) ?_)
  clear hE a; intro a hE
  refine p_nil ?_
  refine x_norm ?_
  refine c_reg R24_1_l ?_
  refine p_cons (s_still p24_1_0 hE wn_none rfl (st_fieldAddr Try.underlying27 rfl tS3 rfl rfl) ?_)
  clear hE a; intro a hE
  refine p_cons (s_store (off := 2) (k := 1) (cs' := (([Value.int .i64 c, Value.int .i64 f, Value.int .i64 0, Value.int .i64 x, Value.int .i64 h] ++ b16 s ++ b16 d)).toArray) p24_1_1 hE wn_none tS3 rfl rfl rfl rfl B_g1 (Nat.le_of_ble_eq_true rfl) rfl ?_)
  intro w4 B_g1' hk
  replace K_0 := K_0.then_ hk (fun k h => by rw [show k = g1 from h]; exact Or.inr z_0_g1)
  replace B_g1 := B_g1'
  clear hk
  refine p_nil ?_
  refine x_norm ?_
  refine wp_seq ?_
  refine c_reg R24_2_l ?_
  refine p_cons (s_still p24_2_0 hE wn_none rfl (st_loadN (off := 0) (k := 37) (vs := ([Value.int .i64 c, Value.int .i64 f, Value.int .i64 0, Value.int .i64 x, Value.int .i64 h] ++ b16 s ++ b16 d)) tA27 tS27 rfl B_g1 rfl rfl) ?_)
  clear hE a; intro a hE
  refine p_cons (s_call (xs := [Operand.tmp 11]) (args := [Value.agg (([Value.int .i64 c, Value.int .i64 f, Value.int .i64 0, Value.int .i64 x, Value.int .i64 h] ++ b16 s ++ b16 d)).toArray]) p24_2_1 hE wn_none rfl rfl Try.func16 cl16 (check_any c f 0 x h s d 0 (by rw [hok]; rfl) _) ?_)
  rintro e w5 ⟨rfl, hk⟩
  replace B_g1 := kp_blk B_g1 hk (fun h => h)
  replace K_0 := K_0.then_ hk (fun _ h => h.elim)
  refine ⟨_, rfl, ?_⟩
  clear hE a; intro a hE
  refine p_cons (s_still p24_2_2 hE wn_none rfl (st_assign rfl) ?_)
  clear hE a; intro a hE
  refine p_nil ?_
  refine x_norm ?_
  refine c_reg R24_3_l ?_
  refine p_cons (s_still p24_3_0 hE wn_none rfl (st_move rfl) ?_)
  clear hE a; intro a hE
  refine p_cons (s_still p24_3_1 hE wn_none rfl (st_neq (b := false) rfl rfl (by decide)) ?_)
  clear hE a; intro a hE
  refine p_nil ?_
  refine x_norm ?_
  refine c_cond (t := false) hE rfl ?_
  refine wp_skip ?_
  refine x_norm ?_
  refine c_reg R24_5_l ?_
  refine p_cons (s_still p24_5_0 hE wn_none rfl (st_move rfl) ?_)
  clear hE a; intro a hE
  have hnb_g1 := blk_lt B_g1
  have hnz_0 := K_0.kept.1
  refine p_cons (s_call (xs := [Operand.tmp 16]) (args := [Value.slice A ls.length cap]) p24_5_1 hE wn_none rfl rfl Try.func71 cl71 (concat_any A ls.length cap ls rfl _ (F_ls _ K_0) hlc (by omega) (by omega)) ?_)
  rintro e w9 ⟨A7, c8, rfl, O_q6, hk⟩
  replace B_g1 := kp_blk B_g1 hk (fun h => h)
  replace K_0 := K_0.then_ hk (fun _ h => h.elim)
  have Nb_q6_g1 : ¬ OB A7 g1 := fun h => by have := (own_ob O_q6 h).1; have := hnb_g1; omega
  have Z_0_q6 : ∀ k, OB A7 k → (fun _ => False) k ∨ w.heap.size ≤ k := fun k h => .inr (by have := (own_ob O_q6 h).1; have := hnz_0; omega)
  replace O_q6 := own_lower O_q6 hnz_0
  refine ⟨_, rfl, ?_⟩
  clear hE a; intro a hE
  refine p_cons (s_still p24_5_2 hE wn_none rfl (st_assign rfl) ?_)
  clear hE a; intro a hE
  refine p_nil ?_
  refine x_norm ?_
  refine wp_seq ?_
  refine c_reg R24_6_l ?_
  refine p_cons (s_still p24_6_0 hE wn_none rfl (st_move rfl) ?_)
  clear hE a; intro a hE
  refine p_cons (s_still p24_6_1 hE wn_none rfl (st_len Try.underlying36 rfl) ?_)
  clear hE a; intro a hE
  refine p_cons (s_still p24_6_2 hE wn_none rfl (st_gtr (b := false) rfl rfl (decide_eq_false (by omega))) ?_)
  clear hE a; intro a hE
  refine p_nil ?_
  refine x_norm ?_
  refine c_cond (t := false) hE rfl ?_
  refine wp_skip ?_
  refine x_norm ?_
  refine c_reg R24_8_l ?_
  refine p_cons (s_still p24_8_0 hE wn_none rfl (st_move rfl) ?_)
  clear hE a; intro a hE
  refine p_cons (s_still p24_8_1 hE wn_none rfl (st_len Try.underlying36 rfl) ?_)
  clear hE a; intro a hE
  refine p_cons (s_still p24_8_2 hE wn_none rfl (st_fieldAddr Try.underlying27 rfl tS3 rfl rfl) ?_)
  clear hE a; intro a hE
  refine p_cons (s_store (off := 2) (k := 1) (cs' := (([Value.int .i64 c, Value.int .i64 f, Value.int .i64 (ls.flatten.length : Int), Value.int .i64 x, Value.int .i64 h] ++ b16 s ++ b16 d)).toArray) p24_8_3 hE wn_none tS3 rfl rfl rfl rfl B_g1 (Nat.le_of_ble_eq_true rfl) rfl ?_)
  intro w10 B_g1' hk
  replace O_q6 := own_keep O_q6 hk (fun k hk2 h2 => Nb_q6_g1 (by rw [show k = g1 from h2] at hk2; exact hk2))
  replace K_0 := K_0.then_ hk (fun k h => by rw [show k = g1 from h]; exact Or.inr z_0_g1)
  replace B_g1 := B_g1'
  clear hk
  refine p_nil ?_
  refine x_norm ?_
  refine c_reg R24_9_l ?_
  refine p_cons (s_still p24_9_0 hE wn_none rfl (st_loadN (off := 0) (k := 37) (vs := ([Value.int .i64 c, Value.int .i64 f, Value.int .i64 (ls.flatten.length : Int), Value.int .i64 x, Value.int .i64 h] ++ b16 s ++ b16 d)) tA27 tS27 rfl B_g1 rfl rfl) ?_)
  clear hE a; intro a hE
  have hnb_g1 := blk_lt B_g1
  have hnz_0 := K_0.kept.1
  have hno_q6 := fun k (h : OB A7 k) => (own_ob O_q6 h).2
  refine p_cons (s_call (xs := [Operand.tmp 25]) (args := [Value.agg (([Value.int .i64 c, Value.int .i64 f, Value.int .i64 (ls.flatten.length : Int), Value.int .i64 x, Value.int .i64 h] ++ b16 s ++ b16 d)).toArray]) p24_9_1 hE wn_none rfl rfl Try.func19 cl19 (enc_ok c f (ls.flatten.length : Int) x h s d (okF_mk hc hf (by omega) hx hh) _) ?_)
  rintro e w14 ⟨A12, c13, rfl, O_q11, hk⟩
  replace B_g1 := kp_blk B_g1 hk (fun h => h)
  replace O_q6 := own_keep O_q6 hk (fun _ _ h => h)
  replace K_0 := K_0.then_ hk (fun _ h => h.elim)
  have Nb_q11_g1 : ¬ OB A12 g1 := fun h => by have := (own_ob O_q11 h).1; have := hnb_g1; omega
  have Z_0_q11 : ∀ k, OB A12 k → (fun _ => False) k ∨ w.heap.size ≤ k := fun k h => .inr (by have := (own_ob O_q11 h).1; have := hnz_0; omega)
  have NN_q11_q6 : ∀ k, OB A12 k → ¬ OB A7 k := fun k h h2 => by have := (own_ob O_q11 h).1; have := hno_q6 k h2; omega
  have NN_q6_q11 : ∀ k, OB A7 k → ¬ OB A12 k := fun k h h2 => NN_q11_q6 k h2 h
  replace O_q11 := own_lower O_q11 hnz_0
  refine ⟨_, rfl, ?_⟩
  clear hE a; intro a hE
  refine p_cons (s_still p24_9_2 hE wn_none rfl (st_move rfl) ?_)
  clear hE a; intro a hE
  refine p_cons (s_still p24_9_3 hE wn_none rfl (st_extract rfl rfl) ?_)
  clear hE a; intro a hE
  refine p_cons (s_still p24_9_4 hE wn_none rfl (st_extract rfl rfl) ?_)
  clear hE a; intro a hE
  refine p_cons (s_still p24_9_5 hE wn_none rfl (st_assign rfl) ?_)
  clear hE a; intro a hE
  refine p_cons (s_still p24_9_6 hE wn_none rfl (st_assign rfl) ?_)
  clear hE a; intro a hE
  refine p_nil ?_
  refine x_norm ?_
  refine c_reg R24_10_l ?_
  refine p_cons (s_still p24_10_0 hE wn_none rfl (st_move rfl) ?_)
  clear hE a; intro a hE
  refine p_cons (s_still p24_10_1 hE wn_none rfl (st_move rfl) ?_)
  clear hE a; intro a hE
  refine p_cons (s_row (xs := [(0, Operand.tmp 29), (1, Operand.tmp 30)]) (vs := [(0, Value.slice A12 40 c13), (1, Value.slice A7 ls.flatten.length c8)]) (cs := #[Value.slice A12 40 c13, Value.slice A7 ls.flatten.length c8]) p24_10_2 hE wn_none rfl Try.underlying35 rfl (by kernel_rfl) ?_)
  clear hE a; intro g15 w16 z17 B_g15 hk a hE
  have n_g1_g15 : g1 ≠ g15 := ne_new B_g1 z17
  have z_0_g15 := Nat.le_trans K_0.kept.1 z17
  have Nb_q6_g15 : ¬ OB A7 g15 := fun h => by have := (own_ob O_q6 h).2; omega
  have Nb_q11_g15 : ¬ OB A12 g15 := fun h => by have := (own_ob O_q11 h).2; omega
  replace B_g1 := kp_blk B_g1 hk (fun h => h)
  replace O_q6 := own_keep O_q6 hk (fun _ _ h => h)
  replace O_q11 := own_keep O_q11 hk (fun _ _ h => h)
  replace K_0 := K_0.then_ hk (fun _ h => h.elim)
  clear hk
  have hnb_g1 := blk_lt B_g1
  have hnb_g15 := blk_lt B_g15
  have hnz_0 := K_0.kept.1
  have hno_q6 := fun k (h : OB A7 k) => (own_ob O_q6 h).2
  have hno_q11 := fun k (h : OB A12 k) => (own_ob O_q11 h).2
  have hrows := C_rows (e := 5) [(A12, c13, (encF c f (ls.flatten.length : Int) x h s d)), (A7, c8, ls.flatten)] B_g15 rfl (Nat.le_of_ble_eq_true rfl) (by intro r hr; simp only [List.mem_cons, List.not_mem_nil, or_false] at hr; rcases hr with rfl | rfl; exact ⟨(own_caps O_q11).1, (own_told O_q11)⟩; exact ⟨(own_caps O_q6).1, (own_told O_q6)⟩)
  refine p_cons (s_call (xs := [Operand.tmp 31]) (args := [Value.slice (some ⟨g15, 0, none⟩) 2 2]) p24_10_3 hE wn_none rfl rfl Try.func71 cl71 (concat_two (some ⟨g15, 0, none⟩) 2 (encF c f (ls.flatten.length : Int) x h s d) ls.flatten _ hrows (Nat.le_of_ble_eq_true rfl) (by rw [List.length_append, encF_len]; omega)) ?_)
  rintro e w21 ⟨A19, c20, rfl, O_q18, hk⟩
  replace B_g1 := kp_blk B_g1 hk (fun h => h)
  replace B_g15 := kp_blk B_g15 hk (fun h => h)
  replace O_q6 := own_keep O_q6 hk (fun _ _ h => h)
  replace O_q11 := own_keep O_q11 hk (fun _ _ h => h)
  replace K_0 := K_0.then_ hk (fun _ h => h.elim)
  have Nb_q18_g1 : ¬ OB A19 g1 := fun h => by have := (own_ob O_q18 h).1; have := hnb_g1; omega
  have Nb_q18_g15 : ¬ OB A19 g15 := fun h => by have := (own_ob O_q18 h).1; have := hnb_g15; omega
  have Z_0_q18 : ∀ k, OB A19 k → (fun _ => False) k ∨ w.heap.size ≤ k := fun k h => .inr (by have := (own_ob O_q18 h).1; have := hnz_0; omega)
  have NN_q18_q6 : ∀ k, OB A19 k → ¬ OB A7 k := fun k h h2 => by have := (own_ob O_q18 h).1; have := hno_q6 k h2; omega
  have NN_q6_q18 : ∀ k, OB A7 k → ¬ OB A19 k := fun k h h2 => NN_q18_q6 k h2 h
  have NN_q18_q11 : ∀ k, OB A19 k → ¬ OB A12 k := fun k h h2 => by have := (own_ob O_q18 h).1; have := hno_q11 k h2; omega
  have NN_q11_q18 : ∀ k, OB A12 k → ¬ OB A19 k := fun k h h2 => NN_q18_q11 k h2 h
  replace O_q18 := own_lower O_q18 hnz_0
  refine ⟨_, rfl, ?_⟩
  clear hE a; intro a hE
  refine p_cons (s_still p24_10_4 hE wn_none rfl (st_move rfl) ?_)
  clear hE a; intro a hE
  refine p_cons (s_still p24_10_5 hE wn_none rfl (st_assign rfl) ?_)
  clear hE a; intro a hE
  refine p_cons (s_still p24_10_6 hE wn_none rfl (st_assign rfl) ?_)
  clear hE a; intro a hE
  refine p_nil ?_
  refine x_norm ?_
  refine wp_ret ?_
  refine ret_list (rs := [.tmp 4, .tmp 5]) (vs := [Value.slice A19 (((encF c f (ls.flatten.length : Int) x h s d) ++ ls.flatten).length) c20, Value.int .i64 0]) rfl hE (.tmp rfl (.tmp rfl .nil)) rfl ?_
  exact ⟨_, _, rfl, O_q18, K_0⟩
end Go.Proofs.Ytndiddfleidnaaa.Hw
