/- The program's reader of options: an option's body. -/
import Derived.Test.YtgpclehnomkbmaaOpd
set_option maxRecDepth 100000
set_option linter.unusedVariables false
set_option linter.unusedSimpArgs false
namespace Go.Proofs.Ytgpclehnomkbmaa.Rd
open Go.RowKit Go.Proofs.YtgpclehnomkbmaaW.PrintWords Go.Proofs.Ytgpclehnomkbmaa.Ds Go.Proofs.Ytgpclehnomkbmaa.Op Go.Proofs.Ytgpclehnomkbmaa.Oc Go.Proofs.Ytgpclehnomkbmaa.Or Go.Proofs.Ytgpclehnomkbmaa.Ow Go.Proofs.Ytgpclehnomkbmaa.Ob Go.Proofs.Ytgpclehnomkbmaa.Oe Go.Proofs.Ytgpclehnomkbmaa.Opd
open Go.Proofs.Ytgpclehnomkbmaa.Pk (Kp fitsF spanF putF digF fits_any put_ok C_take)
open Go.Proofs.Ytgpclehnomkbmaa.Cu (joinF isB lN pN rN okc clF)
theorem lN_all (d : List Int) : lN d 0 d.length 0 = d := by
 rw [show lN d 0 d.length 0 = (d.drop 0).take d.length from if_pos ⟨rfl, by omega⟩, List.drop_zero, List.take_length]
theorem pN_all (n : Nat) : pN n 0 n 0 = n := (if_pos ⟨rfl, by omega⟩ : pN n 0 n 0 = 0 + n).trans (Nat.zero_add n)
theorem rN_ok {n p k : Nat} (h : p + k ≤ n) : rN n p k 0 = 0 := if_pos ⟨rfl, h⟩
theorem pN_ok {n p k s : Nat} (h : p + k ≤ n) (e : p + k = s) : pN n p k 0 = s := by subst e; exact if_pos ⟨rfl, h⟩
theorem lN_ok {l : List Int} {p k : Nat} (h : p + k ≤ l.length) : lN l p k 0 = (l.drop p).take k := if_pos ⟨rfl, h⟩
theorem lN_was {l : List Int} {p k : Nat} : lN l p k 3 = [] := if_neg (fun h => by cases h.1)
theorem pN_was {n p k : Nat} : pN n p k 3 = p := if_neg (fun h => by cases h.1)
theorem rN_was {n p k : Nat} : rN n p k 3 = 3 := by unfold rN; rw [if_neg (fun h => by cases h.1)]; rfl
theorem all_rd {d : List Int} (h : ∀ j, j < d.length → rd d (j : Int) = 0) : d.all (fun x => decide (x = 0)) = true := by
 rw [List.all_eq_true]
 intro x hx
 obtain ⟨j, hj, rfl⟩ := List.getElem_of_mem hx
 have := h j hj
 simpa [rd, rdOf, List.getD_eq_getElem?_getD, hj] using this
theorem all_no {d : List Int} {j : Nat} (hj : j < d.length) (h : ¬ rd d (j : Int) = 0) : d.all (fun x => decide (x = 0)) = false := by
 rw [List.all_eq_false]
 refine ⟨d[j], List.getElem_mem hj, ?_⟩
 simpa [rd, rdOf, List.getD_eq_getElem?_getD, hj] using h
theorem R162_0_l : List.range (regOf Try.f162 0).size = [0] := by kernel_rfl
theorem R162_1_l : List.range (regOf Try.f162 1).size = [0, 1, 2] := by kernel_rfl
theorem body162 : Try.f162.body = some (.seq (.region 0 (regOf Try.f162 0) false) (.seq (.region 1 (regOf Try.f162 1) false) (.ret))) := by kernel_rfl
theorem p162_0_0 : pj (regOf Try.f162 0) 0 = some (some 2, .assign (.const (.bool false)), 4, none) := by kernel_rfl
theorem p162_1_0 : pj (regOf Try.f162 1) 0 = some (some 3, .move (.tmp 0), 5, none) := by kernel_rfl
theorem p162_1_1 : pj (regOf Try.f162 1) 1 = some (some 4, .binOp .neq 5 (.tmp 3) (.const (.int .u8 0)) 5, 4, none) := by kernel_rfl
theorem p162_1_2 : pj (regOf Try.f162 1) 2 = some (some 2, .assign (.tmp 4), 4, none) := by kernel_rfl
set_option maxHeartbeats 4000000 in
theorem pd1 (x : Int) (w : World) : Calls Try.prog 162 #[.int .u8 x] w fun e w' => e = .returned (.bool (!decide (x = 0))) ∧ Kp w w' (fun _ => False) := by
 have K_0 := Kp.refl w (fun _ => False)
 refine enter (args := [Value.int .u8 x]) (n := 5) Try.func162 body162 rfl rfl rfl ?_
 intro a hE
 refine c_reg R162_0_l ?_
 refine q0 p162_0_0 hE (st_assign rfl) ?_; clear hE a; intro a hE
 refine p_nil (x_norm (c_reg R162_1_l ?_))
 refine q0 p162_1_0 hE (st_move rfl) ?_; clear hE a; intro a hE
 refine q0 p162_1_1 hE (st_neq (b := (!decide (x = 0))) rfl rfl rfl) ?_; clear hE a; intro a hE
 refine q0 p162_1_2 hE (st_assign rfl) ?_; clear hE a; intro a hE
 refine p_nil (x_norm (wp_ret ?_))
 refine ret_one (v := Value.bool (!decide (x = 0))) rfl hE (.tmp rfl .nil) ?_
 exact ⟨rfl, K_0⟩
theorem R169_0_l : List.range (regOf Try.f169 0).size = [0] := by kernel_rfl
theorem R169_1_l : List.range (regOf Try.f169 1).size = [0, 1, 2] := by kernel_rfl
theorem R169_2_l : List.range (regOf Try.f169 2).size = [0] := by kernel_rfl
theorem R169_3_l : List.range (regOf Try.f169 3).size = [0, 1] := by kernel_rfl
theorem R169_4_l : List.range (regOf Try.f169 4).size = [0, 1, 2, 3, 4, 5] := by kernel_rfl
theorem R169_5_l : List.range (regOf Try.f169 5).size = [0, 1] := by kernel_rfl
theorem R169_6_l : List.range (regOf Try.f169 6).size = [0, 1] := by kernel_rfl
theorem R169_7_l : List.range (regOf Try.f169 7).size = [0] := by kernel_rfl
theorem body169 : Try.f169.body = some (.seq (.region 0 (regOf Try.f169 0) false) (.seq (.seq (.region 1 (regOf Try.f169 1) false) (.block 0 (.loop (.seq (.region 2 (regOf Try.f169 2) false) (.seq (.cond (Operand.tmp 9) (.skip) (.exit 0)) (.seq (.block 1 (.seq (.region 3 (regOf Try.f169 3) false) (.seq (.region 4 (regOf Try.f169 4) false) (.cond (Operand.tmp 16) (.seq (.region 5 (regOf Try.f169 5) false) (.ret)) (.skip))))) (.region 6 (regOf Try.f169 6) false))))))) (.seq (.region 7 (regOf Try.f169 7) false) (.ret)))) := by kernel_rfl
theorem p169_0_0 : pj (regOf Try.f169 0) 0 = some (some 4, .assign (.const (.int .i64 0)), 3, none) := by kernel_rfl
theorem p169_1_0 : pj (regOf Try.f169 1) 0 = some (some 6, .move (.tmp 0), 22, none) := by kernel_rfl
theorem p169_1_1 : pj (regOf Try.f169 1) 1 = some (some 7, .call { callee := .builtin .len, args := #[.tmp 6], argTypes := #[22] }, 3, none) := by kernel_rfl
theorem p169_1_2 : pj (regOf Try.f169 1) 2 = some (some 8, .move (.const (.int .i64 0)), 3, none) := by kernel_rfl
theorem p169_2_0 : pj (regOf Try.f169 2) 0 = some (some 9, .binOp .lss 3 (.tmp 8) (.tmp 7) 3, 0, none) := by kernel_rfl
theorem p169_3_0 : pj (regOf Try.f169 3) 0 = some (some 10, .move (.tmp 8), 3, none) := by kernel_rfl
theorem p169_3_1 : pj (regOf Try.f169 3) 1 = some (some 5, .assign (.tmp 10), 3, none) := by kernel_rfl
theorem p169_4_0 : pj (regOf Try.f169 4) 0 = some (some 11, .move (.tmp 1), 245, none) := by kernel_rfl
theorem p169_4_1 : pj (regOf Try.f169 4) 1 = some (some 12, .move (.tmp 0), 22, none) := by kernel_rfl
theorem p169_4_2 : pj (regOf Try.f169 4) 2 = some (some 13, .move (.tmp 5), 3, none) := by kernel_rfl
theorem p169_4_3 : pj (regOf Try.f169 4) 3 = some (some 14, .indexAddr 22 (.tmp 12) (.tmp 13), 0, none) := by kernel_rfl
theorem tS5 : (Try.prog.info? 5).map (·.size) = some 1 := by kernel_rfl
theorem p169_4_4 : pj (regOf Try.f169 4) 4 = some (some 15, .load 5 (.tmp 14), 5, none) := by kernel_rfl
theorem tA5 : (Try.prog.underlying 5).map aggD = some false := by kernel_rfl
theorem p169_4_5 : pj (regOf Try.f169 4) 5 = some (some 16, .call { callee := .value (.tmp 11), args := #[.tmp 15], argTypes := #[5] }, 4, none) := by kernel_rfl
theorem cl162 : callable Try.f162 = true := by kernel_rfl
theorem p169_6_0 : pj (regOf Try.f169 6) 0 = some (some 18, .binOp .add 3 (.tmp 8) (.const (.int .i64 1)) 3, 3, none) := by kernel_rfl
theorem p169_6_1 : pj (regOf Try.f169 6) 1 = some (some 8, .move (.tmp 18), 3, none) := by kernel_rfl
theorem p169_5_0 : pj (regOf Try.f169 5) 0 = some (some 17, .move (.tmp 5), 3, none) := by kernel_rfl
theorem p169_5_1 : pj (regOf Try.f169 5) 1 = some (some 4, .assign (.tmp 17), 3, none) := by kernel_rfl
theorem p169_7_0 : pj (regOf Try.f169 7) 0 = some (some 4, .assign (.const (.int .i64 (-1))), 3, none) := by kernel_rfl
set_option maxHeartbeats 4000000 in
theorem idx_any (A : Option Addr) (c : Nat) (d : List Int) (hdl : d.length ≤ 1000000) (w : World) (F_A : ∀ W', Kp w W' (fun _ => False) → Kd.C (Kd.int .u8) W' A d.length d) : Calls Try.prog 169 #[.slice A d.length c, .func (.func 162) #[] #[]] w fun e w' => ∃ r, e = .returned (.int .i64 r) ∧ decide (0 ≤ r) = !(d.all (fun x => decide (x = 0))) ∧ Kp w w' (fun _ => False) := by
 have K_0 := Kp.refl w (fun _ => False)
 refine enter (args := [Value.slice A d.length c, Value.func (.func 162) #[] #[]]) (n := 19) Try.func169 body169 rfl rfl rfl ?_
 intro a hE
 refine c_reg R169_0_l ?_
 refine q0 p169_0_0 hE (st_assign rfl) ?_; clear hE a; intro a hE
 refine p_nil (x_norm (wp_seq (c_reg R169_1_l ?_)))
 refine q0 p169_1_0 hE (st_move rfl) ?_; clear hE a; intro a hE
 refine q0 p169_1_1 hE (st_len Try.underlying22 rfl) ?_; clear hE a; intro a hE
 refine q0 p169_1_2 hE (st_move rfl) ?_; clear hE a; intro a hE
 refine p_nil (x_norm (wp_block ?_))
 refine c_loop (α := Nat) (fun i a W => En 19 a [(0, Value.slice A d.length c), (1, Value.func (.func 162) #[] #[]), (7, Value.int .i64 (d.length : Int)), (8, Value.int .i64 (i : Int))] ∧ i ≤ d.length ∧ (∀ j, j < i → rd d (j : Int) = 0) ∧ Kp w W (fun _ => False)) (fun i => d.length - i) (0) ?_ ?_
 ·
  exact ⟨En.sub hE ⟨rfl, rfl, rfl, rfl, trivial⟩, Nat.zero_le _, fun j hj => absurd hj (Nat.not_lt_zero j), K_0⟩
 ·
  clear hE a
  rintro i a w1 ⟨hE, hi9, hall, K_0⟩
  refine c_reg R169_2_l ?_
  rcases Decidable.em ((i : Int) < (d.length : Int)) with hc2 | hc2
  ·
   refine p_cons (s_still (v := Value.bool true) p169_2_0 hE wn_none rfl (st_lss rfl rfl (decide_eq_true hc2)) ?_); clear hE a; intro a hE
   refine p_nil (x_norm (wp_seq ?_))
   refine c_cond (t := true) hE rfl ?_
   refine wp_skip (x_norm (wp_seq (wp_block (c_reg R169_3_l ?_))))
   refine q0 p169_3_0 hE (st_move rfl) ?_; clear hE a; intro a hE
   refine q0 p169_3_1 hE (st_assign rfl) ?_; clear hE a; intro a hE
   refine p_nil (x_norm (c_reg R169_4_l ?_))
   refine q0 p169_4_0 hE (st_move rfl) ?_; clear hE a; intro a hE
   refine q0 p169_4_1 hE (st_move rfl) ?_; clear hE a; intro a hE
   refine q0 p169_4_2 hE (st_move rfl) ?_; clear hE a; intro a hE
   refine q0 p169_4_3 hE (st_indexAddrC (i := i) Try.underlying22 tS5 (F_A _ K_0) rfl rfl (by omega)) ?_; clear hE a; intro a hE
   refine q0 (v := Value.int .u8 (rd d (i : Int))) p169_4_4 hE (st_loadC (i := i) tA5 (F_A _ K_0) (by omega) rfl) ?_; clear hE a; intro a hE
   refine p_cons (s_callv (fst := []) (cap := []) (xs := [Operand.tmp 15]) (args := [Value.int .u8 (rd d (i : Int))]) p169_4_5 hE wn_none rfl rfl rfl Try.func162 cl162 (pd1 (rd d (i : Int)) _) ?_)
   rintro e w3 ⟨rfl, hk⟩
   replace K_0 := K_0.then_ hk (fun _ h => h.elim)
   refine ⟨_, rfl, ?_⟩; clear hE a; intro a hE
   refine p_nil (x_norm ?_)
   rcases Bool.eq_false_or_eq_true (decide ((rd d (i : Int)) = 0)) with hb4 | hb4
   ·
    rw [hb4] at hE
    have hb4P := of_decide_eq_true hb4
    refine c_cond (t := false) hE rfl ?_
    refine wp_skip (x_normB (x_norm (c_regL R169_6_l ?_)))
    refine q0 p169_6_0 hE (st_add (z := (i : Int) + 1) rfl rfl (wr_i64 _ (by omega) (by omega))) ?_; clear hE a; intro a hE
    refine q0 p169_6_1 hE (st_move rfl) ?_; clear hE a; intro a hE
    refine p_nil (x_norm ?_)
    have hz9 : rd d (i : Int) = 0 := of_decide_eq_true hb4
    exact ⟨i + 1, by omega, En.sub hE ⟨rfl, rfl, rfl, rfl, trivial⟩, by omega, fun j hj => by rcases Nat.lt_succ_iff_lt_or_eq.1 hj with h | h; exact hall j h; rw [h]; exact hz9, K_0⟩
   ·
    rw [hb4] at hE
    have hb4P := of_decide_eq_false hb4
    refine c_cond (t := true) hE rfl ?_
    refine c_reg R169_5_l ?_
    refine q0 p169_5_0 hE (st_move rfl) ?_; clear hE a; intro a hE
    refine q0 p169_5_1 hE (st_assign rfl) ?_; clear hE a; intro a hE
    refine p_nil (x_norm (wp_ret (x_retB (x_ret (x_ret (x_retB (x_ret ?_)))))))
    refine ret_one (v := Value.int .i64 (i : Int)) rfl hE (.tmp rfl .nil) ?_
    exact ⟨_, rfl, by rw [all_no (j := i) (by omega) (of_decide_eq_false hb4)]; exact decide_eq_true (by omega), K_0⟩
  ·
   refine p_cons (s_still (v := Value.bool false) p169_2_0 hE wn_none rfl (st_lss rfl rfl (decide_eq_false hc2)) ?_); clear hE a; intro a hE
   refine p_nil (x_norm (wp_seq ?_))
   refine c_cond (t := false) hE rfl ?_
   refine wp_exit (x_exit (x_exit (x_in (x_norm (c_reg R169_7_l ?_)))))
   refine q0 p169_7_0 hE (st_assign rfl) ?_; clear hE a; intro a hE
   refine p_nil (x_norm (wp_ret ?_))
   refine ret_one (v := Value.int .i64 (-1)) rfl hE (.tmp rfl .nil) ?_
   exact ⟨-1, rfl, by rw [all_rd (fun j hj => hall j (by omega))]; rfl, K_0⟩
theorem R161_0_l : List.range (regOf Try.f161 0).size = [0] := by kernel_rfl
theorem R161_1_l : List.range (regOf Try.f161 1).size = [0, 1, 2, 3, 4] := by kernel_rfl
theorem body161 : Try.f161.body = some (.seq (.region 0 (regOf Try.f161 0) false) (.seq (.region 1 (regOf Try.f161 1) false) (.ret))) := by kernel_rfl
theorem p161_0_0 : pj (regOf Try.f161 0) 0 = some (some 4, .assign (.const (.bool false)), 4, none) := by kernel_rfl
theorem p161_1_0 : pj (regOf Try.f161 1) 0 = some (some 5, .move (.tmp 0), 22, none) := by kernel_rfl
theorem p161_1_1 : pj (regOf Try.f161 1) 1 = some (some 6, .move (.tmp 1), 245, none) := by kernel_rfl
theorem p161_1_2 : pj (regOf Try.f161 1) 2 = some (some 7, .call { callee := .value (.func 169), args := #[.tmp 5, .tmp 6], argTypes := #[22, 245] }, 3, none) := by kernel_rfl
theorem cl169 : callable Try.f169 = true := by kernel_rfl
theorem p161_1_3 : pj (regOf Try.f161 1) 3 = some (some 8, .binOp .geq 3 (.tmp 7) (.const (.int .i64 0)) 3, 4, none) := by kernel_rfl
theorem p161_1_4 : pj (regOf Try.f161 1) 4 = some (some 4, .assign (.tmp 8), 4, none) := by kernel_rfl
set_option maxHeartbeats 4000000 in
theorem ctf_any (A : Option Addr) (c : Nat) (d : List Int) (hdl : d.length ≤ 1000000) (w : World) (F_A : ∀ W', Kp w W' (fun _ => False) → Kd.C (Kd.int .u8) W' A d.length d) : Calls Try.prog 161 #[.slice A d.length c, .func (.func 162) #[] #[]] w fun e w' => e = .returned (.bool (!(d.all (fun x => decide (x = 0))))) ∧ Kp w w' (fun _ => False) := by
 have K_0 := Kp.refl w (fun _ => False)
 refine enter (args := [Value.slice A d.length c, Value.func (.func 162) #[] #[]]) (n := 9) Try.func161 body161 rfl rfl rfl ?_
 intro a hE
 refine c_reg R161_0_l ?_
 refine q0 p161_0_0 hE (st_assign rfl) ?_; clear hE a; intro a hE
 refine p_nil (x_norm (c_reg R161_1_l ?_))
 refine q0 p161_1_0 hE (st_move rfl) ?_; clear hE a; intro a hE
 refine q0 p161_1_1 hE (st_move rfl) ?_; clear hE a; intro a hE
 refine p_cons (s_call (xs := [Operand.tmp 5, Operand.tmp 6]) (args := [Value.slice A d.length c, Value.func (.func 162) #[] #[]]) p161_1_2 hE wn_none rfl rfl Try.func169 cl169 (idx_any A c d hdl _ (fun W' hk => F_A W' (K_0.then_ hk (fun _ h => h.elim)))) ?_)
 rintro e w1 ⟨r, rfl, hr, hk⟩
 replace K_0 := K_0.then_ hk (fun _ h => h.elim)
 refine ⟨_, rfl, ?_⟩; clear hE a; intro a hE
 refine q0 p161_1_3 hE (st_geq (b := (!(d.all (fun x => decide (x = 0))))) rfl rfl hr) ?_; clear hE a; intro a hE
 refine q0 p161_1_4 hE (st_assign rfl) ?_; clear hE a; intro a hE
 refine p_nil (x_norm (wp_ret ?_))
 refine ret_one (v := Value.bool (!(d.all (fun x => decide (x = 0))))) rfl hE (.tmp rfl .nil) ?_
 exact ⟨rfl, K_0⟩
theorem R147_0_l : List.range (regOf Try.f147 0).size = [0, 1] := by kernel_rfl
theorem R147_1_l : List.range (regOf Try.f147 1).size = [0, 1, 2, 3] := by kernel_rfl
theorem R147_2_l : List.range (regOf Try.f147 2).size = [0, 1, 2, 3, 4] := by kernel_rfl
theorem R147_3_l : List.range (regOf Try.f147 3).size = [0, 1, 2] := by kernel_rfl
theorem R147_4_l : List.range (regOf Try.f147 4).size = [0, 1, 2, 3] := by kernel_rfl
theorem body147 : Try.f147.body = some (.seq (.region 0 (regOf Try.f147 0) false) (.seq (.region 1 (regOf Try.f147 1) false) (.seq (.seq (.region 2 (regOf Try.f147 2) false) (.cond (Operand.tmp 11) (.region 3 (regOf Try.f147 3) false) (.skip))) (.seq (.region 4 (regOf Try.f147 4) false) (.ret))))) := by kernel_rfl
theorem p147_0_0 : pj (regOf Try.f147 0) 0 = some (some 1, .box 107 (.tmp 0), 0, none) := by kernel_rfl
theorem p147_0_1 : pj (regOf Try.f147 0) 1 = some (some 2, .alloc 50, 0, none) := by kernel_rfl
theorem tZ50 : (Try.prog.info? 50).bind (·.zero) = some (Value.agg (([Value.int .i64 0, Value.slice none 0 0] ++ b16 (fun _ => 0) ++ [Value.slice none 0 0])).toArray) := by kernel_rfl
theorem p147_1_0 : pj (regOf Try.f147 1) 0 = some (some 4, .fieldAddr 107 (.tmp 1) 0, 0, none) := by kernel_rfl
theorem tS104 : (Try.prog.info? 104).map (·.size) = some 1 := by kernel_rfl
theorem p147_1_1 : pj (regOf Try.f147 1) 1 = some (some 5, .load 104 (.tmp 4), 104, none) := by kernel_rfl
theorem tA104 : (Try.prog.underlying 104).map aggD = some false := by kernel_rfl
theorem p147_1_2 : pj (regOf Try.f147 1) 2 = some (some 6, .call { callee := .value (.func 51), args := #[.tmp 5], argTypes := #[104] }, 3, none) := by kernel_rfl
theorem cl51 : callable Try.f51 = true := by kernel_rfl
theorem p147_1_3 : pj (regOf Try.f147 1) 3 = some (some 3, .assign (.tmp 6), 3, none) := by kernel_rfl
theorem p147_2_0 : pj (regOf Try.f147 2) 0 = some (some 7, .fieldAddr 107 (.tmp 1) 0, 0, none) := by kernel_rfl
theorem p147_2_1 : pj (regOf Try.f147 2) 1 = some (some 8, .load 104 (.tmp 7), 104, none) := by kernel_rfl
theorem p147_2_2 : pj (regOf Try.f147 2) 2 = some (some 9, .move (.tmp 3), 3, none) := by kernel_rfl
theorem p147_2_3 : pj (regOf Try.f147 2) 3 = some (some 10, .call { callee := .value (.func 67), args := #[.tmp 8, .tmp 9], argTypes := #[104, 3] }, 22, none) := by kernel_rfl
theorem cl67 : callable Try.f67 = true := by kernel_rfl
theorem p147_2_4 : pj (regOf Try.f147 2) 4 = some (some 11, .call { callee := .value (.func 161), args := #[.tmp 10, .func 162], argTypes := #[22, 245] }, 4, none) := by kernel_rfl
theorem cl161 : callable Try.f161 = true := by kernel_rfl
theorem p147_4_0 : pj (regOf Try.f147 4) 0 = some (some 15, .move (.tmp 3), 3, none) := by kernel_rfl
theorem p147_4_1 : pj (regOf Try.f147 4) 1 = some (some 16, .buildSlice 42 1 #[(0, .tmp 15)], 42, none) := by kernel_rfl
theorem p147_4_2 : pj (regOf Try.f147 4) 2 = some (some 17, .build 50 #[(0, .const (.int .i64 1)), (1, .tmp 16)], 50, none) := by kernel_rfl
theorem p147_4_3 : pj (regOf Try.f147 4) 3 = some (none, .store 50 (.tmp 2) (.tmp 17), 0, none) := by kernel_rfl
theorem tS50 : (Try.prog.info? 50).map (·.size) = some 19 := by kernel_rfl
theorem tA50 : (Try.prog.underlying 50).map aggD = some true := by kernel_rfl
theorem p147_3_0 : pj (regOf Try.f147 3) 0 = some (some 12, .fieldAddr 107 (.tmp 1) 0, 0, none) := by kernel_rfl
theorem p147_3_1 : pj (regOf Try.f147 3) 1 = some (some 13, .load 104 (.tmp 12), 104, none) := by kernel_rfl
theorem p147_3_2 : pj (regOf Try.f147 3) 2 = some (some 14, .call { callee := .value (.func 145), args := #[.tmp 13, .const (.int .i64 3)], argTypes := #[104, 24] }, 0, none) := by kernel_rfl
theorem cl145 : callable Try.f145 = true := by kernel_rfl
set_option maxHeartbeats 4000000 in
theorem pads_c (g : Nat) (A : Option Addr) (c : Nat) (d : List Int) (w : World) (hl : d.length ≤ 1000) (hc : d.length ≤ c) (hc2 : c ≤ 9223372036854775807) (B_g : w.heap[g]? = some (.cells #[.slice A d.length c, .int .i64 0, .int .i64 0] 188 (0, 0))) (F_A : ∀ W', Kp w W' (fun k => k = g) → Kd.C (Kd.int .u8) W' A d.length d) : Calls Try.prog 147 #[Value.agg #[Value.pointer (some ⟨g, 0, none⟩)]] w fun e w' => ∃ A' c', e = .returned (Value.agg (([Value.int .i64 1, Value.slice A' 1 c'] ++ b16 (fun _ => 0) ++ [Value.slice none 0 0])).toArray) ∧ 1 ≤ c' ∧ (∀ W', Kp w' W' (fun k => k < w.heap.size) → Kd.C (Kd.int .i64) W' A' 1 [(d.length : Int)]) ∧ w'.heap[g]? = some (.cells #[.slice A d.length c, .int .i64 (d.length : Int), .int .i64 (if okD 1 d = true then 0 else 3)] 188 (0, 0)) ∧ Kp w w' (fun k => k = g) := by
 have K_0 := Kp.refl w (fun k => k = g)
 refine enter (args := [Value.agg #[Value.pointer (some ⟨g, 0, none⟩)]]) (n := 18) Try.func147 body147 rfl rfl rfl ?_
 intro a hE
 refine c_reg R147_0_l ?_
 refine p_cons (s_box p147_0_0 hE wn_none rfl rfl ?_)
 clear hE a; intro g1 w2 z3 B_g1 hk a hE
 replace B_g1 : w2.heap[g1]? = some (.cells #[Value.pointer (some ⟨g, 0, none⟩)] 107 (0, 0)) := B_g1
 have n_g_g1 : g ≠ g1 := ne_new B_g z3
 have z_0_g1 := Nat.le_trans K_0.kept.1 z3
 replace B_g := kp_blk B_g hk (fun h => h)
 replace K_0 := K_0.then_ hk (fun _ h => h.elim)
 clear hk
 refine p_cons (s_alloc p147_0_1 hE wn_none rfl tZ50 ?_)
 clear hE a; intro g4 w5 z6 B_g4 hk a hE
 replace B_g4 : w5.heap[g4]? = some (.cells (([Value.int .i64 0, Value.slice none 0 0] ++ b16 (fun _ => 0) ++ [Value.slice none 0 0])).toArray 50 (0, 0)) := B_g4
 have n_g_g4 : g ≠ g4 := ne_new B_g z6
 have n_g1_g4 : g1 ≠ g4 := ne_new B_g1 z6
 have z_0_g4 := Nat.le_trans K_0.kept.1 z6
 replace B_g := kp_blk B_g hk (fun h => h)
 replace B_g1 := kp_blk B_g1 hk (fun h => h)
 replace K_0 := K_0.then_ hk (fun _ h => h.elim)
 clear hk
 refine p_nil (x_norm (c_reg R147_1_l ?_))
 refine q0 p147_1_0 hE (st_fieldAddr Try.underlying107 rfl tS104 rfl rfl) ?_; clear hE a; intro a hE
 refine q0 p147_1_1 hE (st_load1 tA104 rfl ((blk_cell B_g1 0).trans rfl)) ?_; clear hE a; intro a hE
 refine p_cons (s_call (xs := [Operand.tmp 5]) (args := [Value.pointer (some ⟨g, 0, none⟩)]) p147_1_2 hE wn_none rfl rfl Try.func51 cl51 (Go.Proofs.Ytgpclehnomkbmaa.Cu.left_c _ g A c 0 _ _ (by omega) (by omega) B_g) ?_)
 rintro e w7 ⟨rfl, hk⟩
 replace B_g := kp_blk B_g hk (fun h => h)
 replace B_g1 := kp_blk B_g1 hk (fun h => h)
 replace B_g4 := kp_blk B_g4 hk (fun h => h)
 replace K_0 := K_0.then_ hk (fun _ h => h.elim)
 refine ⟨_, rfl, ?_⟩; clear hE a; intro a hE
 refine q0 p147_1_3 hE (st_assign rfl) ?_; clear hE a; intro a hE
 refine p_nil (x_norm (wp_seq (c_reg R147_2_l ?_)))
 refine q0 p147_2_0 hE (st_fieldAddr Try.underlying107 rfl tS104 rfl rfl) ?_; clear hE a; intro a hE
 refine q0 p147_2_1 hE (st_load1 tA104 rfl ((blk_cell B_g1 0).trans rfl)) ?_; clear hE a; intro a hE
 refine q0 p147_2_2 hE (st_move rfl) ?_; clear hE a; intro a hE
 have hnb_g := blk_lt B_g
 have hnb_g1 := blk_lt B_g1
 have hnb_g4 := blk_lt B_g4
 have hnz_0 := K_0.kept.1
 refine p_cons (s_call (xs := [Operand.tmp 8, Operand.tmp 9]) (args := [Value.pointer (some ⟨g, 0, none⟩), Value.int .i64 (d.length : Int)]) p147_2_3 hE wn_none rfl rfl Try.func67 cl67 (Go.Proofs.Ytgpclehnomkbmaa.Cu.bytes_e g A c d 0 d.length 0 (d.length : Int) rfl d.length 0 (pN_all _) (rN_ok (by omega)) _ (by omega) (by omega) (by omega) (by omega) d (lN_all d) (by omega) B_g (fun W hk => F_A W (K_0.then_ hk (fun k h => by rw [show k = g from h]; exact Or.inl rfl)))) ?_)
 rintro e w11 ⟨A9, c10, rfl, O_q8, _, B_g', hk⟩
 replace B_g1 := kp_blk B_g1 hk (Ne.symm n_g_g1)
 replace B_g4 := kp_blk B_g4 hk (Ne.symm n_g_g4)
 replace K_0 := K_0.then_ hk (fun k h => by rw [show k = g from h]; exact Or.inl rfl)
 replace B_g := B_g'
 have Nb_q8_g : ¬ OB A9 g := fun h => by have := (own_ob O_q8 h).1; have := hnb_g; omega
 have Nb_q8_g1 : ¬ OB A9 g1 := fun h => by have := (own_ob O_q8 h).1; have := hnb_g1; omega
 have Nb_q8_g4 : ¬ OB A9 g4 := fun h => by have := (own_ob O_q8 h).1; have := hnb_g4; omega
 have Z_0_q8 : ∀ k, OB A9 k → (fun k => k = g) k ∨ w.heap.size ≤ k := fun k h => .inr (by have := (own_ob O_q8 h).1; have := hnz_0; omega)
 replace O_q8 := own_lower O_q8 hnz_0
 refine ⟨_, rfl, ?_⟩; clear hE a; intro a hE
 refine p_cons (s_call (xs := [Operand.tmp 10, Operand.func 162]) (args := [Value.slice A9 d.length c10, Value.func (.func 162) #[] #[]]) p147_2_4 hE wn_none rfl rfl Try.func161 cl161 (ctf_any A9 c10 d (by omega) _ (fun W' hk => own_told (own_keep O_q8 hk (fun _ _ h => h)))) ?_)
 rintro e w12 ⟨rfl, hk⟩
 replace B_g := kp_blk B_g hk (fun h => h)
 replace B_g1 := kp_blk B_g1 hk (fun h => h)
 replace B_g4 := kp_blk B_g4 hk (fun h => h)
 replace O_q8 := own_keep O_q8 hk (fun _ _ h => h)
 replace K_0 := K_0.then_ hk (fun _ h => h.elim)
 refine ⟨_, rfl, ?_⟩; clear hE a; intro a hE
 refine p_nil (x_norm ?_)
 rcases Bool.eq_false_or_eq_true (d.all (fun x => decide (x = 0))) with hb13 | hb13
 ·
  rw [hb13] at hE
  refine c_cond (t := false) hE rfl ?_
  refine wp_skip (x_norm (c_reg R147_4_l ?_))
  refine q0 p147_4_0 hE (st_move rfl) ?_; clear hE a; intro a hE
  refine p_cons (s_row (xs := [(0, Operand.tmp 15)]) (vs := [(0, Value.int .i64 (d.length : Int))]) (cs := #[Value.int .i64 (d.length : Int)]) p147_4_1 hE wn_none rfl Try.underlying42 rfl (by kernel_rfl) ?_)
  clear hE a; intro g14 w15 z16 B_g14 hk a hE
  have n_g_g14 : g ≠ g14 := ne_new B_g z16
  have n_g1_g14 : g1 ≠ g14 := ne_new B_g1 z16
  have n_g4_g14 : g4 ≠ g14 := ne_new B_g4 z16
  have z_0_g14 := Nat.le_trans K_0.kept.1 z16
  have Nb_q8_g14 : ¬ OB A9 g14 := fun h => by have := (own_ob O_q8 h).2; omega
  replace B_g := kp_blk B_g hk (fun h => h)
  replace B_g1 := kp_blk B_g1 hk (fun h => h)
  replace B_g4 := kp_blk B_g4 hk (fun h => h)
  replace O_q8 := own_keep O_q8 hk (fun _ _ h => h)
  replace K_0 := K_0.then_ hk (fun _ h => h.elim)
  clear hk
  refine q0 p147_4_2 hE (st_build (xs := [(0, Operand.const (Value.int IntKind.i64 1)), (1, Operand.tmp 16)]) (vs := [(0, Value.int .i64 1), (1, Value.slice (some ⟨g14, 0, none⟩) 1 1)]) (cs := (([Value.int .i64 1, Value.slice (some ⟨g14, 0, none⟩) 1 1] ++ b16 (fun _ => 0) ++ [Value.slice none 0 0])).toArray) rfl (by kernel_rfl)) ?_; clear hE a; intro a hE
  refine p_cons (s_store (off := 0) (k := 19) (cs' := (([Value.int .i64 1, Value.slice (some ⟨g14, 0, none⟩) 1 1] ++ b16 (fun _ => 0) ++ [Value.slice none 0 0])).toArray) p147_4_3 hE wn_none tS50 rfl rfl rfl rfl B_g4 (Nat.le_of_ble_eq_true rfl) rfl ?_)
  intro w17 B_g4' hk
  replace B_g := kp_blk B_g hk n_g_g4
  replace B_g1 := kp_blk B_g1 hk n_g1_g4
  replace B_g14 := kp_blk B_g14 hk (Ne.symm n_g4_g14)
  replace O_q8 := own_keep O_q8 hk (fun k hk2 h2 => Nb_q8_g4 (by rw [show k = g4 from h2] at hk2; exact hk2))
  replace K_0 := K_0.then_ hk (fun k h => by rw [show k = g4 from h]; exact Or.inr z_0_g4)
  replace B_g4 := B_g4'
  clear hk
  refine p_nil (x_norm (wp_ret ?_))
  refine ret_one (v := Value.agg (([Value.int .i64 1, Value.slice (some ⟨g14, 0, none⟩) 1 1] ++ b16 (fun _ => 0) ++ [Value.slice none 0 0])).toArray) rfl hE (.cellN (us := ([Value.int .i64 1, Value.slice (some ⟨g14, 0, none⟩) 1 1] ++ b16 (fun _ => 0) ++ [Value.slice none 0 0])) tA50 tS50 rfl B_g4 rfl .nil) ?_
  have e9 : okD 1 d = true := by unfold okD; rw [if_pos rfl]; exact hb13
  exact ⟨_, _, rfl, Nat.le_refl _, fun W' hk => C_blk (k := .i64) (l := [(d.length : Int)]) (off := 0) (kp_blk B_g14 hk (fun h => absurd z_0_g14 (Nat.not_le.2 h))) ⟨rfl, Nat.le_of_ble_eq_true rfl⟩ rfl, by rw [e9]; exact B_g, K_0⟩
 ·
  rw [hb13] at hE
  refine c_cond (t := true) hE rfl ?_
  refine c_regL R147_3_l ?_
  refine q0 p147_3_0 hE (st_fieldAddr Try.underlying107 rfl tS104 rfl rfl) ?_; clear hE a; intro a hE
  refine q0 p147_3_1 hE (st_load1 tA104 rfl ((blk_cell B_g1 0).trans rfl)) ?_; clear hE a; intro a hE
  refine p_cons (s_call (xs := [Operand.tmp 13, Operand.const (Value.int IntKind.i64 3)]) (args := [Value.pointer (some ⟨g, 0, none⟩), Value.int .i64 3]) p147_3_2 hE wn_none rfl rfl Try.func145 cl145 (Go.Proofs.Ytgpclehnomkbmaa.Cu.spoil_c _ 3 g A c (d.length) _ _ B_g) ?_)
  rintro e w18 ⟨rfl, B_g', hk⟩
  rw [if_pos rfl] at B_g'
  replace B_g1 := kp_blk B_g1 hk (Ne.symm n_g_g1)
  replace B_g4 := kp_blk B_g4 hk (Ne.symm n_g_g4)
  replace O_q8 := own_keep O_q8 hk (fun k hk2 h2 => Nb_q8_g (by rw [show k = g from h2] at hk2; exact hk2))
  replace K_0 := K_0.then_ hk (fun k h => by rw [show k = g from h]; exact Or.inl rfl)
  replace B_g := B_g'
  refine ⟨_, rfl, ?_⟩; clear hE a; intro a hE
  refine p_nil (x_norm (c_reg R147_4_l ?_))
  refine q0 p147_4_0 hE (st_move rfl) ?_; clear hE a; intro a hE
  refine p_cons (s_row (xs := [(0, Operand.tmp 15)]) (vs := [(0, Value.int .i64 (d.length : Int))]) (cs := #[Value.int .i64 (d.length : Int)]) p147_4_1 hE wn_none rfl Try.underlying42 rfl (by kernel_rfl) ?_)
  clear hE a; intro g19 w20 z21 B_g19 hk a hE
  have n_g_g19 : g ≠ g19 := ne_new B_g z21
  have n_g1_g19 : g1 ≠ g19 := ne_new B_g1 z21
  have n_g4_g19 : g4 ≠ g19 := ne_new B_g4 z21
  have z_0_g19 := Nat.le_trans K_0.kept.1 z21
  have Nb_q8_g19 : ¬ OB A9 g19 := fun h => by have := (own_ob O_q8 h).2; omega
  replace B_g := kp_blk B_g hk (fun h => h)
  replace B_g1 := kp_blk B_g1 hk (fun h => h)
  replace B_g4 := kp_blk B_g4 hk (fun h => h)
  replace O_q8 := own_keep O_q8 hk (fun _ _ h => h)
  replace K_0 := K_0.then_ hk (fun _ h => h.elim)
  clear hk
  refine q0 p147_4_2 hE (st_build (xs := [(0, Operand.const (Value.int IntKind.i64 1)), (1, Operand.tmp 16)]) (vs := [(0, Value.int .i64 1), (1, Value.slice (some ⟨g19, 0, none⟩) 1 1)]) (cs := (([Value.int .i64 1, Value.slice (some ⟨g19, 0, none⟩) 1 1] ++ b16 (fun _ => 0) ++ [Value.slice none 0 0])).toArray) rfl (by kernel_rfl)) ?_; clear hE a; intro a hE
  refine p_cons (s_store (off := 0) (k := 19) (cs' := (([Value.int .i64 1, Value.slice (some ⟨g19, 0, none⟩) 1 1] ++ b16 (fun _ => 0) ++ [Value.slice none 0 0])).toArray) p147_4_3 hE wn_none tS50 rfl rfl rfl rfl B_g4 (Nat.le_of_ble_eq_true rfl) rfl ?_)
  intro w22 B_g4' hk
  replace B_g := kp_blk B_g hk n_g_g4
  replace B_g1 := kp_blk B_g1 hk n_g1_g4
  replace B_g19 := kp_blk B_g19 hk (Ne.symm n_g4_g19)
  replace O_q8 := own_keep O_q8 hk (fun k hk2 h2 => Nb_q8_g4 (by rw [show k = g4 from h2] at hk2; exact hk2))
  replace K_0 := K_0.then_ hk (fun k h => by rw [show k = g4 from h]; exact Or.inr z_0_g4)
  replace B_g4 := B_g4'
  clear hk
  refine p_nil (x_norm (wp_ret ?_))
  refine ret_one (v := Value.agg (([Value.int .i64 1, Value.slice (some ⟨g19, 0, none⟩) 1 1] ++ b16 (fun _ => 0) ++ [Value.slice none 0 0])).toArray) rfl hE (.cellN (us := ([Value.int .i64 1, Value.slice (some ⟨g19, 0, none⟩) 1 1] ++ b16 (fun _ => 0) ++ [Value.slice none 0 0])) tA50 tS50 rfl B_g4 rfl .nil) ?_
  have e9 : okD 1 d = false := by unfold okD; rw [if_pos rfl]; exact hb13
  exact ⟨_, _, rfl, Nat.le_refl _, fun W' hk => C_blk (k := .i64) (l := [(d.length : Int)]) (off := 0) (kp_blk B_g19 hk (fun h => absurd z_0_g19 (Nat.not_le.2 h))) ⟨rfl, Nat.le_of_ble_eq_true rfl⟩ rfl, by rw [e9]; exact B_g, K_0⟩
theorem off_bd (k : Nat) (hk : k ≤ 9) (i : Nat) (hi : i ≤ (sizesF k).length) : offN (sizesF k) i ≤ 100 := Nat.le_trans (offN_le _ hi) (kinds9 (Q := fun k => offN (sizesF k) (sizesF k).length ≤ 100) (by decide) k hk)
theorem R148_0_l : List.range (regOf Try.f148 0).size = [0, 1] := by kernel_rfl
theorem R148_1_l : List.range (regOf Try.f148 1).size = [0] := by kernel_rfl
theorem R148_2_l : List.range (regOf Try.f148 2).size = [0, 1, 2, 3] := by kernel_rfl
theorem R148_3_l : List.range (regOf Try.f148 3).size = [0] := by kernel_rfl
theorem R148_4_l : List.range (regOf Try.f148 4).size = [0, 1, 2] := by kernel_rfl
theorem R148_5_l : List.range (regOf Try.f148 5).size = [0, 1, 2, 3] := by kernel_rfl
theorem R148_6_l : List.range (regOf Try.f148 6).size = [0, 1] := by kernel_rfl
theorem R148_7_l : List.range (regOf Try.f148 7).size = [0, 1] := by kernel_rfl
theorem R148_8_l : List.range (regOf Try.f148 8).size = [0, 1, 2] := by kernel_rfl
theorem R148_9_l : List.range (regOf Try.f148 9).size = [0, 1] := by kernel_rfl
theorem body148 : Try.f148.body = some (.seq (.region 0 (regOf Try.f148 0) false) (.seq (.region 1 (regOf Try.f148 1) false) (.seq (.seq (.region 2 (regOf Try.f148 2) false) (.block 0 (.loop (.seq (.region 3 (regOf Try.f148 3) false) (.seq (.cond (Operand.tmp 10) (.skip) (.exit 0)) (.seq (.block 1 (.seq (.region 4 (regOf Try.f148 4) false) (.region 5 (regOf Try.f148 5) false))) (.region 6 (regOf Try.f148 6) false))))))) (.seq (.seq (.region 7 (regOf Try.f148 7) false) (.cond (Operand.tmp 18) (.region 8 (regOf Try.f148 8) false) (.skip))) (.seq (.region 9 (regOf Try.f148 9) false) (.ret)))))) := by kernel_rfl
theorem p148_0_0 : pj (regOf Try.f148 0) 0 = some (some 1, .box 116 (.tmp 0), 0, none) := by kernel_rfl
theorem p148_0_1 : pj (regOf Try.f148 0) 1 = some (some 2, .assign (.const (.int .i64 0)), 3, none) := by kernel_rfl
theorem p148_1_0 : pj (regOf Try.f148 1) 0 = some (some 3, .assign (.const (.int .i64 0)), 3, none) := by kernel_rfl
theorem p148_2_0 : pj (regOf Try.f148 2) 0 = some (some 6, .fieldAddr 116 (.tmp 1) 1, 0, none) := by kernel_rfl
theorem tS42 : (Try.prog.info? 42).map (·.size) = some 1 := by kernel_rfl
theorem p148_2_1 : pj (regOf Try.f148 2) 1 = some (some 7, .load 42 (.tmp 6), 42, none) := by kernel_rfl
theorem tA42 : (Try.prog.underlying 42).map aggD = some false := by kernel_rfl
theorem p148_2_2 : pj (regOf Try.f148 2) 2 = some (some 8, .call { callee := .builtin .len, args := #[.tmp 7], argTypes := #[42] }, 3, none) := by kernel_rfl
theorem p148_2_3 : pj (regOf Try.f148 2) 3 = some (some 9, .move (.const (.int .i64 0)), 3, none) := by kernel_rfl
theorem p148_3_0 : pj (regOf Try.f148 3) 0 = some (some 10, .binOp .lss 3 (.tmp 9) (.tmp 8) 3, 0, none) := by kernel_rfl
theorem p148_4_0 : pj (regOf Try.f148 4) 0 = some (some 11, .indexAddr 42 (.tmp 7) (.tmp 9), 0, none) := by kernel_rfl
theorem tS3 : (Try.prog.info? 3).map (·.size) = some 1 := by kernel_rfl
theorem p148_4_1 : pj (regOf Try.f148 4) 1 = some (some 12, .load 3 (.tmp 11), 3, none) := by kernel_rfl
theorem tA3 : (Try.prog.underlying 3).map aggD = some false := by kernel_rfl
theorem p148_4_2 : pj (regOf Try.f148 4) 2 = some (some 5, .assign (.tmp 12), 3, none) := by kernel_rfl
theorem p148_5_0 : pj (regOf Try.f148 5) 0 = some (some 13, .move (.tmp 3), 3, none) := by kernel_rfl
theorem p148_5_1 : pj (regOf Try.f148 5) 1 = some (some 14, .move (.tmp 5), 3, none) := by kernel_rfl
theorem p148_5_2 : pj (regOf Try.f148 5) 2 = some (some 15, .binOp .add 3 (.tmp 13) (.tmp 14) 3, 3, none) := by kernel_rfl
theorem p148_5_3 : pj (regOf Try.f148 5) 3 = some (some 3, .assign (.tmp 15), 3, none) := by kernel_rfl
theorem p148_6_0 : pj (regOf Try.f148 6) 0 = some (some 16, .binOp .add 3 (.tmp 9) (.const (.int .i64 1)) 3, 3, none) := by kernel_rfl
theorem p148_6_1 : pj (regOf Try.f148 6) 1 = some (some 9, .move (.tmp 16), 3, none) := by kernel_rfl
theorem p148_7_0 : pj (regOf Try.f148 7) 0 = some (some 17, .fieldAddr 116 (.tmp 1) 3, 0, none) := by kernel_rfl
theorem tS4 : (Try.prog.info? 4).map (·.size) = some 1 := by kernel_rfl
theorem p148_7_1 : pj (regOf Try.f148 7) 1 = some (some 18, .load 4 (.tmp 17), 4, none) := by kernel_rfl
theorem tA4 : (Try.prog.underlying 4).map aggD = some false := by kernel_rfl
theorem p148_8_0 : pj (regOf Try.f148 8) 0 = some (some 19, .move (.tmp 3), 3, none) := by kernel_rfl
theorem p148_8_1 : pj (regOf Try.f148 8) 1 = some (some 20, .binOp .add 3 (.tmp 19) (.const (.int .i64 16)) 3, 3, none) := by kernel_rfl
theorem p148_8_2 : pj (regOf Try.f148 8) 2 = some (some 3, .assign (.tmp 20), 3, none) := by kernel_rfl
theorem p148_9_0 : pj (regOf Try.f148 9) 0 = some (some 21, .move (.tmp 3), 3, none) := by kernel_rfl
theorem p148_9_1 : pj (regOf Try.f148 9) 1 = some (some 2, .assign (.tmp 21), 3, none) := by kernel_rfl
set_option maxHeartbeats 4000000 in
theorem plain_c (k : Nat) (hk9 : k ≤ 9) (A1 : Option Addr) (c1 : Nat) (w : World) (F_1 : ∀ W', Kp w W' (fun _ => False) → Kd.C (Kd.int .i64) W' A1 (sizesF k).length (sizesF k)) : Calls Try.prog 148 #[Value.agg #[Value.string (wordF k), Value.slice A1 ((sizesF k).length) c1, Value.int .i64 (behindF k), Value.bool (addrF k), Value.int .i64 (lenF k), Value.int .i64 (zeroF k)]] w fun e w' => e = .returned (.int .i64 (plainF k : Int)) ∧ Kp w w' (fun _ => False) := by
 have K_0 := Kp.refl w (fun _ => False)
 have hsl9 := Go.Proofs.Ytgpclehnomkbmaa.Oc.sizes_len k
 refine enter (args := [Value.agg #[Value.string (wordF k), Value.slice A1 ((sizesF k).length) c1, Value.int .i64 (behindF k), Value.bool (addrF k), Value.int .i64 (lenF k), Value.int .i64 (zeroF k)]]) (n := 22) Try.func148 body148 rfl rfl rfl ?_
 intro a hE
 refine c_reg R148_0_l ?_
 refine p_cons (s_box p148_0_0 hE wn_none rfl rfl ?_)
 clear hE a; intro g1 w2 z3 B_g1 hk a hE
 replace B_g1 : w2.heap[g1]? = some (.cells #[Value.string (wordF k), Value.slice A1 ((sizesF k).length) c1, Value.int .i64 (behindF k), Value.bool (addrF k), Value.int .i64 (lenF k), Value.int .i64 (zeroF k)] 116 (0, 0)) := B_g1
 have z_0_g1 := Nat.le_trans K_0.kept.1 z3
 replace K_0 := K_0.then_ hk (fun _ h => h.elim)
 clear hk
 refine q0 p148_0_1 hE (st_assign rfl) ?_; clear hE a; intro a hE
 refine p_nil (x_norm (c_reg R148_1_l ?_))
 refine q0 p148_1_0 hE (st_assign rfl) ?_; clear hE a; intro a hE
 refine p_nil (x_norm (wp_seq (c_reg R148_2_l ?_)))
 refine q0 p148_2_0 hE (st_fieldAddr Try.underlying116 rfl tS42 rfl rfl) ?_; clear hE a; intro a hE
 refine q0 p148_2_1 hE (st_load1 tA42 rfl ((blk_cell B_g1 1).trans rfl)) ?_; clear hE a; intro a hE
 refine q0 p148_2_2 hE (st_len Try.underlying42 rfl) ?_; clear hE a; intro a hE
 refine q0 p148_2_3 hE (st_move rfl) ?_; clear hE a; intro a hE
 refine p_nil (x_norm (wp_block ?_))
 refine c_loop (α := Nat) (fun i a W => En 22 a [(0, Value.agg #[Value.string (wordF k), Value.slice A1 ((sizesF k).length) c1, Value.int .i64 (behindF k), Value.bool (addrF k), Value.int .i64 (lenF k), Value.int .i64 (zeroF k)]), (1, Value.pointer (some ⟨g1, 0, none⟩)), (2, Value.int .i64 0), (7, Value.slice A1 ((sizesF k).length) c1), (8, Value.int .i64 ((sizesF k).length : Int)), (9, Value.int .i64 (i : Int)), (3, Value.int .i64 ((offN (sizesF k) i : Nat) : Int))] ∧ i ≤ (sizesF k).length ∧ W.heap[g1]? = some (.cells #[Value.string (wordF k), Value.slice A1 ((sizesF k).length) c1, Value.int .i64 (behindF k), Value.bool (addrF k), Value.int .i64 (lenF k), Value.int .i64 (zeroF k)] 116 (0, 0)) ∧ Kp w W (fun _ => False)) (fun i => (sizesF k).length - i) (0) ?_ ?_
 ·
  exact ⟨En.sub hE ⟨rfl, rfl, rfl, rfl, rfl, rfl, rfl, trivial⟩, Nat.zero_le _, B_g1, K_0⟩
 ·
  clear hE a
  rintro i a w4 ⟨hE, hi9, B_g1, K_0⟩
  refine c_reg R148_3_l ?_
  rcases Decidable.em ((i : Int) < ((sizesF k).length : Int)) with hc5 | hc5
  ·
   refine p_cons (s_still (v := Value.bool true) p148_3_0 hE wn_none rfl (st_lss rfl rfl (decide_eq_true hc5)) ?_); clear hE a; intro a hE
   refine p_nil (x_norm (wp_seq ?_))
   refine c_cond (t := true) hE rfl ?_
   refine wp_skip (x_norm (wp_seq (wp_block (c_reg R148_4_l ?_))))
   refine q0 p148_4_0 hE (st_indexAddrC (i := i) Try.underlying42 tS3 (F_1 _ K_0) rfl rfl (by omega)) ?_; clear hE a; intro a hE
   refine q0 (v := Value.int .i64 (rd (sizesF k) (i : Int))) p148_4_1 hE (st_loadC (i := i) tA3 (F_1 _ K_0) (by omega) rfl) ?_; clear hE a; intro a hE
   refine q0 p148_4_2 hE (st_assign rfl) ?_; clear hE a; intro a hE
   refine p_nil (x_norm (c_regL R148_5_l ?_))
   have hsz9 := sizes_fits hk9 (show i < (sizesF k).length by omega)
   have hob9 := off_bd k hk9 i (by omega)
   refine q0 p148_5_0 hE (st_move rfl) ?_; clear hE a; intro a hE
   refine q0 p148_5_1 hE (st_move rfl) ?_; clear hE a; intro a hE
   refine q0 p148_5_2 hE (st_add (z := ((offN (sizesF k) i : Nat) : Int) + (rd (sizesF k) (i : Int))) rfl rfl (wr_i64 _ (by omega) (by omega))) ?_; clear hE a; intro a hE
   refine q0 p148_5_3 hE (st_assign rfl) ?_; clear hE a; intro a hE
   refine p_nil (x_normB (x_norm (c_regL R148_6_l ?_)))
   refine q0 p148_6_0 hE (st_add (z := (i : Int) + 1) rfl rfl (wr_i64 _ (by omega) (by omega))) ?_; clear hE a; intro a hE
   refine q0 p148_6_1 hE (st_move rfl) ?_; clear hE a; intro a hE
   refine p_nil (x_norm ?_)
   have e9 : ((offN (sizesF k) i : Nat) : Int) + rd (sizesF k) (i : Int) = ((offN (sizesF k) (i + 1) : Nat) : Int) := by rw [show offN (sizesF k) (i + 1) = offN (sizesF k) i + (rd (sizesF k) (i : Int)).toNat from rfl]; omega
   exact ⟨i + 1, by omega, En.sub hE ⟨rfl, rfl, rfl, rfl, rfl, rfl, (by rw [e9]; rfl), trivial⟩, by omega, B_g1, K_0⟩
  ·
   refine p_cons (s_still (v := Value.bool false) p148_3_0 hE wn_none rfl (st_lss rfl rfl (decide_eq_false hc5)) ?_); clear hE a; intro a hE
   refine p_nil (x_norm (wp_seq ?_))
   refine c_cond (t := false) hE rfl ?_
   refine wp_exit (x_exit (x_exit (x_in (x_norm (wp_seq (c_reg R148_7_l ?_))))))
   refine q0 p148_7_0 hE (st_fieldAddr Try.underlying116 rfl tS4 rfl rfl) ?_; clear hE a; intro a hE
   refine q0 p148_7_1 hE (st_load1 tA4 rfl ((blk_cell B_g1 3).trans rfl)) ?_; clear hE a; intro a hE
   refine p_nil (x_norm ?_)
   rcases Bool.eq_false_or_eq_true (addrF k) with hb6 | hb6
   ·
    rw [hb6] at hE
    refine c_cond (t := true) hE rfl ?_
    refine c_regL R148_8_l ?_
    have hob9 := off_bd k hk9 i (by omega)
    refine q0 p148_8_0 hE (st_move rfl) ?_; clear hE a; intro a hE
    refine q0 p148_8_1 hE (st_add (z := ((offN (sizesF k) i : Nat) : Int) + 16) rfl rfl (wr_i64 _ (by omega) (by omega))) ?_; clear hE a; intro a hE
    refine q0 p148_8_2 hE (st_assign rfl) ?_; clear hE a; intro a hE
    refine p_nil (x_norm (c_reg R148_9_l ?_))
    refine q0 p148_9_0 hE (st_move rfl) ?_; clear hE a; intro a hE
    refine q0 p148_9_1 hE (st_assign rfl) ?_; clear hE a; intro a hE
    refine p_nil (x_norm (wp_ret ?_))
    refine ret_one (v := Value.int .i64 (((offN (sizesF k) i : Nat) : Int) + 16)) rfl hE (.tmp rfl .nil) ?_
    obtain rfl : i = (sizesF k).length := by omega
    have hpl : (plainF k : Int) = ((offN (sizesF k) (sizesF k).length : Nat) : Int) + 16 := by unfold plainF; rw [if_pos hb6]; rfl
    exact ⟨by rw [hpl], K_0⟩
   ·
    rw [hb6] at hE
    refine c_cond (t := false) hE rfl ?_
    refine wp_skip (x_norm (c_reg R148_9_l ?_))
    refine q0 p148_9_0 hE (st_move rfl) ?_; clear hE a; intro a hE
    refine q0 p148_9_1 hE (st_assign rfl) ?_; clear hE a; intro a hE
    refine p_nil (x_norm (wp_ret ?_))
    refine ret_one (v := Value.int .i64 ((offN (sizesF k) i : Nat) : Int)) rfl hE (.tmp rfl .nil) ?_
    obtain rfl : i = (sizesF k).length := by omega
    have hpl : (plainF k : Int) = ((offN (sizesF k) (sizesF k).length : Nat) : Int) := by unfold plainF; rw [if_neg (by rw [hb6]; decide)]; rfl
    exact ⟨by rw [hpl], K_0⟩
def pQ (r : Int) (x : Nat) : Nat := if r = 0 then x else 0
def nQ (r : Int) (k : Nat) (d : List Int) (i : Nat) : List Int := if r = 0 then numsO k d i else List.replicate i 0
def vQ (r : Int) (k : Nat) (d : List Int) (i : Nat) : Int := if r = 0 then numAt k d i else 0
def xQ (r : Int) (k : Nat) (d : List Int) : List Int := if r = 0 then l16 (addrO k d) else []
def fQ (r : Int) (k : Nat) (d : List Int) (i : Nat) : Nat → Int := if r = 0 then adrI k d i else fun _ => 0
def aQ (r : Int) (k : Nat) (d : List Int) : Nat → Int := if r = 0 then addrO k d else fun _ => 0
theorem nQ_len (r : Int) (k : Nat) (d : List Int) (i : Nat) : (nQ r k d i).length = i := by unfold nQ; split; exact nums_len k i d; exact List.length_replicate
theorem nQ_succ (r : Int) (k : Nat) (d : List Int) (i : Nat) : nQ r k d i ++ [vQ r k d i] = nQ r k d (i + 1) := by
 unfold nQ vQ
 by_cases h : r = 0
 · rw [if_pos h, if_pos h, if_pos h]; exact (nums_succ k i d).symm
 · rw [if_neg h, if_neg h, if_neg h, List.replicate_succ']
theorem xQ_len (r : Int) (k : Nat) (d : List Int) : (xQ r k d).length ≤ 16 := by unfold xQ; split <;> simp [l16]
theorem fQ_zero (r : Int) (k : Nat) (d : List Int) : b16 (fQ r k d 0) = b16 (fun _ => 0) := by
 unfold fQ
 by_cases h : r = 0
 · rw [if_pos h]; exact adrI_zero k d
 · rw [if_neg h]
theorem pads_cl (d : List Int) : clF d.length d.length (if okD 1 d = true then 0 else 3) = if okD 1 d = true then 0 else 3 := by
 unfold clF
 by_cases h : okD 1 d = true
 · rw [if_pos h, if_pos rfl, if_neg (by omega)]
 · rw [if_neg h, if_neg (by decide)]
theorem behind_no {k : Nat} (hk : k ≤ 9) (h : addrF k = false) : behindF k = 0 := by
 revert h
 exact kinds9 (Q := fun k => addrF k = false → behindF k = 0) (by decide) k hk
theorem adrI_late {k n : Nat} (d : List Int) (ha : addrF k = true) (h : atF k < n) : adrI k d n = addrO k d := by
 funext j
 unfold adrI
 rw [if_pos ⟨ha, h⟩]
theorem R111_0_l : List.range (regOf Try.f111 0).size = [0, 1, 2] := by kernel_rfl
theorem R111_1_l : List.range (regOf Try.f111 1).size = [0, 1, 2, 3] := by kernel_rfl
theorem R111_2_l : List.range (regOf Try.f111 2).size = [0] := by kernel_rfl
theorem R111_3_l : List.range (regOf Try.f111 3).size = [0, 1] := by kernel_rfl
theorem R111_4_l : List.range (regOf Try.f111 4).size = [0, 1, 2] := by kernel_rfl
theorem R111_5_l : List.range (regOf Try.f111 5).size = [0, 1] := by kernel_rfl
theorem R111_7_l : List.range (regOf Try.f111 7).size = [0, 1] := by kernel_rfl
theorem R111_9_l : List.range (regOf Try.f111 9).size = [0, 1, 2] := by kernel_rfl
theorem R111_10_l : List.range (regOf Try.f111 10).size = [0, 1, 2, 3] := by kernel_rfl
theorem R111_11_l : List.range (regOf Try.f111 11).size = [0] := by kernel_rfl
theorem R111_12_l : List.range (regOf Try.f111 12).size = [0, 1, 2, 3, 4] := by kernel_rfl
theorem R111_13_l : List.range (regOf Try.f111 13).size = [0, 1, 2, 3, 4, 5, 6, 7, 8, 9, 10, 11] := by kernel_rfl
theorem R111_16_l : List.range (regOf Try.f111 16).size = [0, 1] := by kernel_rfl
theorem R111_17_l : List.range (regOf Try.f111 17).size = [0, 1, 2, 3, 4, 5, 6] := by kernel_rfl
theorem R111_19_l : List.range (regOf Try.f111 19).size = [0, 1] := by kernel_rfl
theorem body111 : Try.f111.body = some (.seq (.region 0 (regOf Try.f111 0) false) (.seq (.region 1 (regOf Try.f111 1) false) (.seq (.seq (.region 2 (regOf Try.f111 2) false) (.block 0 (.seq (.region 3 (regOf Try.f111 3) false) (.cond (Operand.tmp 13) (.seq (.region 4 (regOf Try.f111 4) false) (.ret)) (.seq (.region 5 (regOf Try.f111 5) false) (.cond (Operand.tmp 17) (.seq (.region 6 (regOf Try.f111 6) true) (.seq (.region 7 (regOf Try.f111 7) false) (.ret))) (.skip))))))) (.seq (.seq (.region 8 (regOf Try.f111 8) true) (.cond (Operand.tmp 32) (.region 9 (regOf Try.f111 9) false) (.skip))) (.seq (.seq (.region 10 (regOf Try.f111 10) false) (.block 1 (.loop (.seq (.region 11 (regOf Try.f111 11) false) (.seq (.cond (Operand.tmp 40) (.skip) (.exit 1)) (.seq (.block 2 (.seq (.region 12 (regOf Try.f111 12) false) (.seq (.seq (.region 13 (regOf Try.f111 13) false) (.cond (Operand.tmp 55) (.region 14 (regOf Try.f111 14) true) (.skip))) (.region 15 (regOf Try.f111 15) true)))) (.region 16 (regOf Try.f111 16) false))))))) (.seq (.seq (.region 17 (regOf Try.f111 17) false) (.cond (Operand.tmp 78) (.region 18 (regOf Try.f111 18) true) (.skip))) (.seq (.region 19 (regOf Try.f111 19) false) (.ret)))))))) := by kernel_rfl
theorem p111_0_0 : pj (regOf Try.f111 0) 0 = some (some 3, .box 107 (.tmp 0), 0, none) := by kernel_rfl
theorem p111_0_1 : pj (regOf Try.f111 0) 1 = some (some 5, .box 116 (.tmp 2), 0, none) := by kernel_rfl
theorem p111_0_2 : pj (regOf Try.f111 0) 2 = some (some 6, .alloc 50, 0, none) := by kernel_rfl
theorem p111_1_0 : pj (regOf Try.f111 1) 0 = some (some 10, .move (.tmp 1), 3, none) := by kernel_rfl
theorem p111_1_1 : pj (regOf Try.f111 1) 1 = some (some 11, .build 50 #[(0, .tmp 10)], 50, none) := by kernel_rfl
theorem p111_1_2 : pj (regOf Try.f111 1) 2 = some (some 7, .alloc 50, 0, none) := by kernel_rfl
theorem p111_1_3 : pj (regOf Try.f111 1) 3 = some (none, .store 50 (.tmp 7) (.tmp 11), 0, none) := by kernel_rfl
theorem p111_2_0 : pj (regOf Try.f111 2) 0 = some (some 12, .move (.tmp 1), 3, none) := by kernel_rfl
theorem p111_3_0 : pj (regOf Try.f111 3) 0 = some (some 14, .binOp .eql 3 (.tmp 12) (.const (.int .i64 1)) 3, 4, none) := by kernel_rfl
theorem p111_3_1 : pj (regOf Try.f111 3) 1 = some (some 13, .assign (.tmp 14), 4, none) := by kernel_rfl
theorem p111_4_0 : pj (regOf Try.f111 4) 0 = some (some 15, .load 107 (.tmp 3), 107, none) := by kernel_rfl
theorem tA107 : (Try.prog.underlying 107).map aggD = some true := by kernel_rfl
theorem tS107 : (Try.prog.info? 107).map (·.size) = some 1 := by kernel_rfl
theorem p111_4_1 : pj (regOf Try.f111 4) 1 = some (some 16, .call { callee := .value (.func 147), args := #[.tmp 15], argTypes := #[107] }, 50, none) := by kernel_rfl
theorem cl147 : callable Try.f147 = true := by kernel_rfl
theorem p111_4_2 : pj (regOf Try.f111 4) 2 = some (none, .store 50 (.tmp 6) (.tmp 16), 0, none) := by kernel_rfl
theorem p111_5_0 : pj (regOf Try.f111 5) 0 = some (some 18, .binOp .eql 3 (.tmp 12) (.const (.int .i64 2)) 3, 4, none) := by kernel_rfl
theorem p111_5_1 : pj (regOf Try.f111 5) 1 = some (some 17, .assign (.tmp 18), 4, none) := by kernel_rfl
theorem ns111_6 : Region.noSelect (regOf Try.f111 6) = true := by kernel_rfl
theorem p111_6_0 : pj (regOf Try.f111 6) 0 = some (some 19, .fieldAddr 107 (.tmp 3) 0, 0, none) := by kernel_rfl
theorem p111_6_1 : pj (regOf Try.f111 6) 1 = some (some 20, .load 104 (.tmp 19), 104, none) := by kernel_rfl
theorem p111_6_2 : pj (regOf Try.f111 6) 2 = some (some 21, .fieldAddr 107 (.tmp 3) 0, 0, none) := by kernel_rfl
theorem p111_6_3 : pj (regOf Try.f111 6) 3 = some (some 22, .load 104 (.tmp 21), 104, none) := by kernel_rfl
theorem p111_6_4 : pj (regOf Try.f111 6) 4 = some (some 23, .call { callee := .value (.func 51), args := #[.tmp 22], argTypes := #[104] }, 3, none) := by kernel_rfl
theorem p111_6_5 : pj (regOf Try.f111 6) 5 = some (some 24, .call { callee := .value (.func 67), args := #[.tmp 20, .tmp 23], argTypes := #[104, 3] }, 22, none) := by kernel_rfl
theorem p111_6_6 : pj (regOf Try.f111 6) 6 = some (some 25, .fieldAddr 50 (.tmp 7) 3, 0, none) := by kernel_rfl
theorem tS22 : (Try.prog.info? 22).map (·.size) = some 1 := by kernel_rfl
theorem p111_6_7 : pj (regOf Try.f111 6) 7 = some (none, .store 22 (.tmp 25) (.tmp 24), 0, none) := by kernel_rfl
theorem p111_7_0 : pj (regOf Try.f111 7) 0 = some (some 26, .load 50 (.tmp 7), 50, none) := by kernel_rfl
theorem p111_7_1 : pj (regOf Try.f111 7) 1 = some (none, .store 50 (.tmp 6) (.tmp 26), 0, none) := by kernel_rfl
theorem p111_10_0 : pj (regOf Try.f111 10) 0 = some (some 36, .fieldAddr 116 (.tmp 5) 1, 0, none) := by kernel_rfl
theorem p111_10_1 : pj (regOf Try.f111 10) 1 = some (some 37, .load 42 (.tmp 36), 42, none) := by kernel_rfl
theorem p111_10_2 : pj (regOf Try.f111 10) 2 = some (some 38, .call { callee := .builtin .len, args := #[.tmp 37], argTypes := #[42] }, 3, none) := by kernel_rfl
theorem p111_10_3 : pj (regOf Try.f111 10) 3 = some (some 39, .move (.const (.int .i64 0)), 3, none) := by kernel_rfl
theorem p111_11_0 : pj (regOf Try.f111 11) 0 = some (some 40, .binOp .lss 3 (.tmp 39) (.tmp 38) 3, 0, none) := by kernel_rfl
theorem p111_12_0 : pj (regOf Try.f111 12) 0 = some (some 41, .move (.tmp 39), 3, none) := by kernel_rfl
theorem p111_12_1 : pj (regOf Try.f111 12) 1 = some (some 42, .indexAddr 42 (.tmp 37) (.tmp 39), 0, none) := by kernel_rfl
theorem p111_12_2 : pj (regOf Try.f111 12) 2 = some (some 43, .load 3 (.tmp 42), 3, none) := by kernel_rfl
theorem p111_12_3 : pj (regOf Try.f111 12) 3 = some (some 8, .assign (.tmp 41), 3, none) := by kernel_rfl
theorem p111_12_4 : pj (regOf Try.f111 12) 4 = some (some 9, .assign (.tmp 43), 3, none) := by kernel_rfl
theorem ns111_15 : Region.noSelect (regOf Try.f111 15) = true := by kernel_rfl
theorem p111_15_0 : pj (regOf Try.f111 15) 0 = some (some 62, .fieldAddr 50 (.tmp 7) 1, 0, none) := by kernel_rfl
theorem p111_15_2 : pj (regOf Try.f111 15) 2 = some (some 64, .fieldAddr 107 (.tmp 3) 0, 0, none) := by kernel_rfl
theorem p111_15_3 : pj (regOf Try.f111 15) 3 = some (some 65, .load 104 (.tmp 64), 104, none) := by kernel_rfl
theorem p111_15_4 : pj (regOf Try.f111 15) 4 = some (some 66, .move (.tmp 9), 3, none) := by kernel_rfl
theorem p111_15_1 : pj (regOf Try.f111 15) 1 = some (some 63, .load 42 (.tmp 62), 42, none) := by kernel_rfl
theorem p111_15_5 : pj (regOf Try.f111 15) 5 = some (some 67, .call { callee := .value (.func 109), args := #[.tmp 65, .tmp 66], argTypes := #[104, 3] }, 3, none) := by kernel_rfl
theorem cl109 : callable Try.f109 = true := by kernel_rfl
theorem p111_15_6 : pj (regOf Try.f111 15) 6 = some (some 68, .buildSlice 42 1 #[(0, .tmp 67)], 42, none) := by kernel_rfl
theorem p111_15_7 : pj (regOf Try.f111 15) 7 = some (some 69, .call { callee := .builtin .append, args := #[.tmp 63, .tmp 68], argTypes := #[42, 42] }, 42, none) := by kernel_rfl
theorem eD3 : elemD Try.prog 3 = some (1, 1, 8) := by kernel_rfl
theorem p111_15_8 : pj (regOf Try.f111 15) 8 = some (some 70, .fieldAddr 50 (.tmp 7) 1, 0, none) := by kernel_rfl
theorem p111_15_9 : pj (regOf Try.f111 15) 9 = some (none, .store 42 (.tmp 70) (.tmp 69), 0, none) := by kernel_rfl
theorem p111_16_0 : pj (regOf Try.f111 16) 0 = some (some 71, .binOp .add 3 (.tmp 39) (.const (.int .i64 1)) 3, 3, none) := by kernel_rfl
theorem p111_16_1 : pj (regOf Try.f111 16) 1 = some (some 39, .move (.tmp 71), 3, none) := by kernel_rfl
theorem p111_13_0 : pj (regOf Try.f111 13) 0 = some (some 44, .move (.tmp 8), 3, none) := by kernel_rfl
theorem p111_13_1 : pj (regOf Try.f111 13) 1 = some (some 45, .fieldAddr 116 (.tmp 5) 1, 0, none) := by kernel_rfl
theorem p111_13_2 : pj (regOf Try.f111 13) 2 = some (some 46, .load 42 (.tmp 45), 42, none) := by kernel_rfl
theorem p111_13_3 : pj (regOf Try.f111 13) 3 = some (some 47, .call { callee := .builtin .len, args := #[.tmp 46], argTypes := #[42] }, 3, none) := by kernel_rfl
theorem p111_13_4 : pj (regOf Try.f111 13) 4 = some (some 48, .fieldAddr 116 (.tmp 5) 2, 0, none) := by kernel_rfl
theorem p111_13_5 : pj (regOf Try.f111 13) 5 = some (some 49, .load 3 (.tmp 48), 3, none) := by kernel_rfl
theorem p111_13_6 : pj (regOf Try.f111 13) 6 = some (some 50, .binOp .sub 3 (.tmp 47) (.tmp 49) 3, 3, none) := by kernel_rfl
theorem p111_13_7 : pj (regOf Try.f111 13) 7 = some (some 51, .binOp .eql 3 (.tmp 44) (.tmp 50) 3, 4, none) := by kernel_rfl
theorem p111_13_8 : pj (regOf Try.f111 13) 8 = some (some 52, .move (.tmp 51), 4, none) := by kernel_rfl
theorem p111_13_9 : pj (regOf Try.f111 13) 9 = some (some 53, .fieldAddr 116 (.tmp 5) 3, 0, some (8, true)) := by kernel_rfl
theorem g111_13_8 : dstOf (regOf Try.f111 13) 8 = some 52 := by kernel_rfl
theorem p111_13_10 : pj (regOf Try.f111 13) 10 = some (some 54, .load 4 (.tmp 53), 4, some (8, true)) := by kernel_rfl
theorem p111_13_11 : pj (regOf Try.f111 13) 11 = some (some 55, .pick (.tmp 52) (.tmp 54) (.const (.bool false)), 4, none) := by kernel_rfl
theorem ns111_14 : Region.noSelect (regOf Try.f111 14) = true := by kernel_rfl
theorem p111_14_0 : pj (regOf Try.f111 14) 0 = some (some 56, .fieldAddr 50 (.tmp 7) 2, 0, none) := by kernel_rfl
theorem tS48 : (Try.prog.info? 48).map (·.size) = some 16 := by kernel_rfl
theorem p111_14_1 : pj (regOf Try.f111 14) 1 = some (some 57, .slice 48 (.tmp 56) none none none, 22, none) := by kernel_rfl
theorem p111_14_2 : pj (regOf Try.f111 14) 2 = some (some 58, .fieldAddr 107 (.tmp 3) 0, 0, none) := by kernel_rfl
theorem p111_14_3 : pj (regOf Try.f111 14) 3 = some (some 59, .load 104 (.tmp 58), 104, none) := by kernel_rfl
theorem p111_14_4 : pj (regOf Try.f111 14) 4 = some (some 60, .call { callee := .value (.func 67), args := #[.tmp 59, .const (.int .i64 16)], argTypes := #[104, 3] }, 22, none) := by kernel_rfl
theorem p111_14_5 : pj (regOf Try.f111 14) 5 = some (some 61, .call { callee := .builtin .copy, args := #[.tmp 57, .tmp 60], argTypes := #[22, 22] }, 3, none) := by kernel_rfl
theorem p111_17_0 : pj (regOf Try.f111 17) 0 = some (some 72, .fieldAddr 116 (.tmp 5) 3, 0, none) := by kernel_rfl
theorem p111_17_1 : pj (regOf Try.f111 17) 1 = some (some 73, .load 4 (.tmp 72), 4, none) := by kernel_rfl
theorem p111_17_2 : pj (regOf Try.f111 17) 2 = some (some 74, .move (.tmp 73), 4, none) := by kernel_rfl
theorem p111_17_3 : pj (regOf Try.f111 17) 3 = some (some 75, .fieldAddr 116 (.tmp 5) 2, 0, some (2, true)) := by kernel_rfl
theorem g111_17_2 : dstOf (regOf Try.f111 17) 2 = some 74 := by kernel_rfl
theorem p111_17_4 : pj (regOf Try.f111 17) 4 = some (some 76, .load 3 (.tmp 75), 3, some (2, true)) := by kernel_rfl
theorem p111_17_5 : pj (regOf Try.f111 17) 5 = some (some 77, .binOp .eql 3 (.tmp 76) (.const (.int .i64 0)) 3, 4, some (2, true)) := by kernel_rfl
theorem p111_17_6 : pj (regOf Try.f111 17) 6 = some (some 78, .pick (.tmp 74) (.tmp 77) (.const (.bool false)), 4, none) := by kernel_rfl
theorem ns111_18 : Region.noSelect (regOf Try.f111 18) = true := by kernel_rfl
theorem p111_18_0 : pj (regOf Try.f111 18) 0 = some (some 79, .fieldAddr 50 (.tmp 7) 2, 0, none) := by kernel_rfl
theorem p111_18_1 : pj (regOf Try.f111 18) 1 = some (some 80, .slice 48 (.tmp 79) none none none, 22, none) := by kernel_rfl
theorem p111_18_2 : pj (regOf Try.f111 18) 2 = some (some 81, .fieldAddr 107 (.tmp 3) 0, 0, none) := by kernel_rfl
theorem p111_18_3 : pj (regOf Try.f111 18) 3 = some (some 82, .load 104 (.tmp 81), 104, none) := by kernel_rfl
theorem p111_18_4 : pj (regOf Try.f111 18) 4 = some (some 83, .call { callee := .value (.func 67), args := #[.tmp 82, .const (.int .i64 16)], argTypes := #[104, 3] }, 22, none) := by kernel_rfl
theorem p111_18_5 : pj (regOf Try.f111 18) 5 = some (some 84, .call { callee := .builtin .copy, args := #[.tmp 80, .tmp 83], argTypes := #[22, 22] }, 3, none) := by kernel_rfl
theorem p111_19_0 : pj (regOf Try.f111 19) 0 = some (some 85, .load 50 (.tmp 7), 50, none) := by kernel_rfl
theorem p111_19_1 : pj (regOf Try.f111 19) 1 = some (none, .store 50 (.tmp 6) (.tmp 85), 0, none) := by kernel_rfl
theorem ns111_8 : Region.noSelect (regOf Try.f111 8) = true := by kernel_rfl
theorem p111_8_0 : pj (regOf Try.f111 8) 0 = some (some 27, .fieldAddr 107 (.tmp 3) 0, 0, none) := by kernel_rfl
theorem p111_8_1 : pj (regOf Try.f111 8) 1 = some (some 28, .load 104 (.tmp 27), 104, none) := by kernel_rfl
theorem p111_8_3 : pj (regOf Try.f111 8) 3 = some (some 30, .load 116 (.tmp 5), 116, none) := by kernel_rfl
theorem tA116 : (Try.prog.underlying 116).map aggD = some true := by kernel_rfl
theorem tS116 : (Try.prog.info? 116).map (·.size) = some 6 := by kernel_rfl
theorem p111_8_2 : pj (regOf Try.f111 8) 2 = some (some 29, .call { callee := .value (.func 51), args := #[.tmp 28], argTypes := #[104] }, 3, none) := by kernel_rfl
theorem p111_8_4 : pj (regOf Try.f111 8) 4 = some (some 31, .call { callee := .value (.func 148), args := #[.tmp 30], argTypes := #[116] }, 3, none) := by kernel_rfl
theorem cl148 : callable Try.f148 = true := by kernel_rfl
theorem p111_8_5 : pj (regOf Try.f111 8) 5 = some (some 32, .binOp .neq 3 (.tmp 29) (.tmp 31) 3, 4, none) := by kernel_rfl
theorem p111_9_0 : pj (regOf Try.f111 9) 0 = some (some 33, .fieldAddr 107 (.tmp 3) 0, 0, none) := by kernel_rfl
theorem p111_9_1 : pj (regOf Try.f111 9) 1 = some (some 34, .load 104 (.tmp 33), 104, none) := by kernel_rfl
theorem p111_9_2 : pj (regOf Try.f111 9) 2 = some (some 35, .call { callee := .value (.func 145), args := #[.tmp 34, .const (.int .i64 3)], argTypes := #[104, 24] }, 0, none) := by kernel_rfl
set_option maxHeartbeats 4000000 in
theorem body_c (g : Nat) (A A1 : Option Addr) (c c1 : Nat) (d : List Int) (k : Nat) (hk9 : k ≤ 9) (hk1 : 1 ≤ k) (w : World) (hl : d.length ≤ 1000) (hc : d.length ≤ c) (hc2 : c ≤ 9223372036854775807) (hb : isB d) (B_g : w.heap[g]? = some (.cells #[.slice A d.length c, .int .i64 0, .int .i64 0] 188 (0, 0))) (F_A : ∀ W', Kp w W' (fun k => k = g) → Kd.C (Kd.int .u8) W' A d.length d) (F_1 : ∀ W', Kp w W' (fun k => k = g) → Kd.C (Kd.int .i64) W' A1 (sizesF k).length (sizesF k)) : Calls Try.prog 111 #[Value.agg #[Value.pointer (some ⟨g, 0, none⟩)], .int .i64 (k : Int), Value.agg #[Value.string (wordF k), Value.slice A1 ((sizesF k).length) c1, Value.int .i64 (behindF k), Value.bool (addrF k), Value.int .i64 (lenF k), Value.int .i64 (zeroF k)]] w fun e w' => ∃ B q T ct, ∃ x : OV, ∃ p' : Nat, ∃ r' : Int, e = .returned (Value.agg (([Value.int .i64 x.1, Value.slice B x.2.1.length q] ++ b16 (adr x) ++ [Value.slice T x.2.2.2.length ct])).toArray) ∧ x.2.1.length ≤ q ∧ x.2.2.2.length ≤ ct ∧ (∀ W', Kp w' W' (fun k => k < w.heap.size) → Kd.C (Kd.int .i64) W' B x.2.1.length x.2.1) ∧ (∀ W', Kp w' W' (fun k => k < w.heap.size) → Kd.C (Kd.int .u8) W' T x.2.2.2.length x.2.2.2) ∧ w'.heap[g]? = some (.cells #[.slice A d.length c, .int .i64 (p' : Int), .int .i64 r'] 188 (0, 0)) ∧ p' ≤ d.length ∧ clF d.length p' r' = (if okD k d = true then 0 else 3) ∧ (okD k d = true → x = mkO k d) ∧ Kp w w' (fun k => k = g) := by
 have K_0 := Kp.refl w (fun k => k = g)
 have hkf := kind_facts k hk9
 have hat1 := at_le k
 have hsl9 := Go.Proofs.Ytgpclehnomkbmaa.Oc.sizes_len k
 refine enter (args := [Value.agg #[Value.pointer (some ⟨g, 0, none⟩)], Value.int .i64 (k : Int), Value.agg #[Value.string (wordF k), Value.slice A1 ((sizesF k).length) c1, Value.int .i64 (behindF k), Value.bool (addrF k), Value.int .i64 (lenF k), Value.int .i64 (zeroF k)]]) (n := 86) Try.func111 body111 rfl rfl rfl ?_
 intro a hE
 refine c_reg R111_0_l ?_
 refine p_cons (s_box p111_0_0 hE wn_none rfl rfl ?_)
 clear hE a; intro g1 w2 z3 B_g1 hk a hE
 replace B_g1 : w2.heap[g1]? = some (.cells #[Value.pointer (some ⟨g, 0, none⟩)] 107 (0, 0)) := B_g1
 have n_g_g1 : g ≠ g1 := ne_new B_g z3
 have z_0_g1 := Nat.le_trans K_0.kept.1 z3
 replace B_g := kp_blk B_g hk (fun h => h)
 replace K_0 := K_0.then_ hk (fun _ h => h.elim)
 clear hk
 refine p_cons (s_box p111_0_1 hE wn_none rfl rfl ?_)
 clear hE a; intro g4 w5 z6 B_g4 hk a hE
 replace B_g4 : w5.heap[g4]? = some (.cells #[Value.string (wordF k), Value.slice A1 ((sizesF k).length) c1, Value.int .i64 (behindF k), Value.bool (addrF k), Value.int .i64 (lenF k), Value.int .i64 (zeroF k)] 116 (0, 0)) := B_g4
 have n_g_g4 : g ≠ g4 := ne_new B_g z6
 have n_g1_g4 : g1 ≠ g4 := ne_new B_g1 z6
 have z_0_g4 := Nat.le_trans K_0.kept.1 z6
 replace B_g := kp_blk B_g hk (fun h => h)
 replace B_g1 := kp_blk B_g1 hk (fun h => h)
 replace K_0 := K_0.then_ hk (fun _ h => h.elim)
 clear hk
 refine p_cons (s_alloc p111_0_2 hE wn_none rfl tZ50 ?_)
 clear hE a; intro g7 w8 z9 B_g7 hk a hE
 replace B_g7 : w8.heap[g7]? = some (.cells (([Value.int .i64 0, Value.slice none 0 0] ++ b16 (fun _ => 0) ++ [Value.slice none 0 0])).toArray 50 (0, 0)) := B_g7
 have n_g_g7 : g ≠ g7 := ne_new B_g z9
 have n_g1_g7 : g1 ≠ g7 := ne_new B_g1 z9
 have n_g4_g7 : g4 ≠ g7 := ne_new B_g4 z9
 have z_0_g7 := Nat.le_trans K_0.kept.1 z9
 replace B_g := kp_blk B_g hk (fun h => h)
 replace B_g1 := kp_blk B_g1 hk (fun h => h)
 replace B_g4 := kp_blk B_g4 hk (fun h => h)
 replace K_0 := K_0.then_ hk (fun _ h => h.elim)
 clear hk
 refine p_nil (x_norm (c_reg R111_1_l ?_))
 refine q0 p111_1_0 hE (st_move rfl) ?_; clear hE a; intro a hE
 refine q0 p111_1_1 hE (st_build (xs := [(0, Operand.tmp 10)]) (vs := [(0, Value.int .i64 (k : Int))]) (cs := (([Value.int .i64 (k : Int), Value.slice none 0 0] ++ b16 (fun _ => 0) ++ [Value.slice none 0 0])).toArray) rfl (by kernel_rfl)) ?_; clear hE a; intro a hE
 refine p_cons (s_alloc p111_1_2 hE wn_none rfl tZ50 ?_)
 clear hE a; intro g10 w11 z12 B_g10 hk a hE
 replace B_g10 : w11.heap[g10]? = some (.cells (([Value.int .i64 0, Value.slice none 0 0] ++ b16 (fun _ => 0) ++ [Value.slice none 0 0])).toArray 50 (0, 0)) := B_g10
 have n_g_g10 : g ≠ g10 := ne_new B_g z12
 have n_g1_g10 : g1 ≠ g10 := ne_new B_g1 z12
 have n_g4_g10 : g4 ≠ g10 := ne_new B_g4 z12
 have n_g7_g10 : g7 ≠ g10 := ne_new B_g7 z12
 have z_0_g10 := Nat.le_trans K_0.kept.1 z12
 replace B_g := kp_blk B_g hk (fun h => h)
 replace B_g1 := kp_blk B_g1 hk (fun h => h)
 replace B_g4 := kp_blk B_g4 hk (fun h => h)
 replace B_g7 := kp_blk B_g7 hk (fun h => h)
 replace K_0 := K_0.then_ hk (fun _ h => h.elim)
 clear hk
 refine p_cons (s_store (off := 0) (k := 19) (cs' := (([Value.int .i64 (k : Int), Value.slice none 0 0] ++ b16 (fun _ => 0) ++ [Value.slice none 0 0])).toArray) p111_1_3 hE wn_none tS50 rfl rfl rfl rfl B_g10 (Nat.le_of_ble_eq_true rfl) rfl ?_)
 intro w13 B_g10' hk
 replace B_g := kp_blk B_g hk n_g_g10
 replace B_g1 := kp_blk B_g1 hk n_g1_g10
 replace B_g4 := kp_blk B_g4 hk n_g4_g10
 replace B_g7 := kp_blk B_g7 hk n_g7_g10
 replace K_0 := K_0.then_ hk (fun k h => by rw [show k = g10 from h]; exact Or.inr z_0_g10)
 replace B_g10 := B_g10'
 clear hk
 refine p_nil (x_norm (wp_seq (c_reg R111_2_l ?_)))
 refine q0 p111_2_0 hE (st_move rfl) ?_; clear hE a; intro a hE
 refine p_nil (x_norm (wp_block ?_))
 rcases Decidable.em (k = 1) with hK1 | hK1
 ·
  subst hK1
  refine c_reg R111_3_l ?_
  refine q0 p111_3_0 hE (st_eql (b := true) rfl rfl (by decide)) ?_; clear hE a; intro a hE
  refine q0 p111_3_1 hE (st_assign rfl) ?_; clear hE a; intro a hE
  refine p_nil (x_norm ?_)
  refine c_cond (t := true) hE rfl ?_
  refine c_reg R111_4_l ?_
  refine q0 p111_4_0 hE (st_loadN (off := 0) (k := 1) (vs := [Value.pointer (some ⟨g, 0, none⟩)]) tA107 tS107 rfl B_g1 rfl rfl) ?_; clear hE a; intro a hE
  have hlt_g := blk_lt B_g
  have hlt_g1 := blk_lt B_g1
  have hlt_g4 := blk_lt B_g4
  have hlt_g7 := blk_lt B_g7
  have hlt_g10 := blk_lt B_g10
  have hlt_0 := K_0.kept.1
  refine p_cons (s_call (xs := [Operand.tmp 15]) (args := [Value.agg #[Value.pointer (some ⟨g, 0, none⟩)]]) p111_4_1 hE wn_none rfl rfl Try.func147 cl147 (pads_c g A c d _ hl hc hc2 B_g (fun W hk => F_A W (K_0.then_ hk (fun k h => by rw [show k = g from h]; exact Or.inl rfl)))) ?_)
  rintro e w16 ⟨A14, c15, rfl, hcap9, hF9, B_g', hk⟩
  replace B_g1 := kp_blk B_g1 hk (Ne.symm n_g_g1)
  replace B_g4 := kp_blk B_g4 hk (Ne.symm n_g_g4)
  replace B_g7 := kp_blk B_g7 hk (Ne.symm n_g_g7)
  replace B_g10 := kp_blk B_g10 hk (Ne.symm n_g_g10)
  replace K_0 := K_0.then_ hk (fun k h => by rw [show k = g from h]; exact Or.inl rfl)
  replace B_g := B_g'
  have K_s17 := Kp.refl w16 (fun k => k = g ∨ k = g1 ∨ k = g4 ∨ k = g7 ∨ k = g10)
  refine ⟨_, rfl, ?_⟩; clear hE a; intro a hE
  refine p_cons (s_store (off := 0) (k := 19) (cs' := (([Value.int .i64 1, Value.slice A14 1 c15] ++ b16 (fun _ => 0) ++ [Value.slice none 0 0])).toArray) p111_4_2 hE wn_none tS50 rfl rfl rfl rfl B_g7 (Nat.le_of_ble_eq_true rfl) rfl ?_)
  intro w18 B_g7' hk
  replace B_g := kp_blk B_g hk n_g_g7
  replace B_g1 := kp_blk B_g1 hk n_g1_g7
  replace B_g4 := kp_blk B_g4 hk n_g4_g7
  replace B_g10 := kp_blk B_g10 hk (Ne.symm n_g7_g10)
  replace K_0 := K_0.then_ hk (fun k h => by rw [show k = g7 from h]; exact Or.inr z_0_g7)
  replace K_s17 := K_s17.then_ hk (fun k h => by rw [show k = g7 from h]; exact Or.inl (Or.inr (Or.inr (Or.inr (Or.inl rfl)))))
  replace B_g7 := B_g7'
  clear hk
  refine p_nil (x_norm (wp_ret (x_retB (x_ret ?_))))
  refine ret_one (v := Value.agg (([Value.int .i64 1, Value.slice A14 1 c15] ++ b16 (fun _ => 0) ++ [Value.slice none 0 0])).toArray) rfl hE (.cellN (us := ([Value.int .i64 1, Value.slice A14 1 c15] ++ b16 (fun _ => 0) ++ [Value.slice none 0 0])) tA50 tS50 rfl B_g7 rfl .nil) ?_
  exact ⟨_, _, none, 0, (1, [(d.length : Int)], l16 (fun _ => 0), []), d.length, _, rfl, hcap9, Nat.le_refl _, fun W' hk => hF9 W' ((K_s17.mono (fun k h => by have h : k = g ∨ k = g1 ∨ k = g4 ∨ k = g7 ∨ k = g10 := h; omega)).then_ hk (fun k h => .inl (by have h : k < w.heap.size := h; omega))), fun W' hk => Kd.C_nil _ _, B_g, Nat.le_refl _, pads_cl d, fun _ => rfl, K_0⟩
 ·
  refine c_reg R111_3_l ?_
  refine q0 p111_3_0 hE (st_eql (b := false) rfl rfl (decide_eq_false (by omega))) ?_; clear hE a; intro a hE
  refine q0 p111_3_1 hE (st_assign rfl) ?_; clear hE a; intro a hE
  refine p_nil (x_norm ?_)
  refine c_cond (t := false) hE rfl ?_
  rcases Decidable.em (k = 2) with hK2 | hK2
  ·
   subst hK2
   refine c_reg R111_5_l ?_
   refine q0 p111_5_0 hE (st_eql (b := true) rfl rfl (by decide)) ?_; clear hE a; intro a hE
   refine q0 p111_5_1 hE (st_assign rfl) ?_; clear hE a; intro a hE
   refine p_nil (x_norm ?_)
   refine c_cond (t := true) hE rfl ?_
   refine c_drawS (S := fun W => W.heap[g1]? = some (.cells #[Value.pointer (some ⟨g, 0, none⟩)] 107 (0, 0)) ∧ W.heap[g4]? = some (.cells #[Value.string (wordF 2), Value.slice A1 ((sizesF 2).length) c1, Value.int .i64 (behindF 2), Value.bool (addrF 2), Value.int .i64 (lenF 2), Value.int .i64 (zeroF 2)] 116 (0, 0)) ∧ W.heap[g7]? = some (.cells (([Value.int .i64 0, Value.slice none 0 0] ++ b16 (fun _ => 0) ++ [Value.slice none 0 0])).toArray 50 (0, 0)) ∧ True) rfl rfl (listed := #[false, false, false, false, false, false, false, false]) rfl ?_
   intro w19 hh hk
   replace B_g := kp_blk B_g hk (fun h => h)
   replace B_g1 := kp_blk B_g1 hk (fun h => h)
   replace B_g4 := kp_blk B_g4 hk (fun h => h)
   replace B_g7 := kp_blk B_g7 hk (fun h => h)
   replace B_g10 := kp_blk B_g10 hk (fun h => h)
   replace K_0 := K_0.then_ hk (fun _ h => h.elim)
   clear hh hk
   refine Rv.dq (v := Value.pointer (some ⟨g1, 0, none⟩)) p111_6_0 ns111_6 hE wn_none ⟨B_g1, B_g4, B_g7, trivial⟩ (fun W hS => (st_fieldAddr Try.underlying107 rfl tS104 rfl rfl)) ?_; clear hE a; intro a hE
   refine Rv.dq (v := Value.pointer (some ⟨g, 0, none⟩)) p111_6_1 ns111_6 hE wn_none ⟨B_g1, B_g4, B_g7, trivial⟩ (fun W hS => (st_load1 tA104 rfl ((blk_cell hS.1 0).trans rfl))) ?_; clear hE a; intro a hE
   refine Rv.dq (v := Value.pointer (some ⟨g1, 0, none⟩)) p111_6_2 ns111_6 hE wn_none ⟨B_g1, B_g4, B_g7, trivial⟩ (fun W hS => (st_fieldAddr Try.underlying107 rfl tS104 rfl rfl)) ?_; clear hE a; intro a hE
   refine Rv.dq (v := Value.pointer (some ⟨g, 0, none⟩)) p111_6_3 ns111_6 hE wn_none ⟨B_g1, B_g4, B_g7, trivial⟩ (fun W hS => (st_load1 tA104 rfl ((blk_cell hS.1 0).trans rfl))) ?_; clear hE a; intro a hE
   refine d_one (by kernel_rfl) rfl (s_call (xs := [Operand.tmp 22]) (args := [Value.pointer (some ⟨g, 0, none⟩)]) p111_6_4 hE wn_none rfl rfl Try.func51 cl51 (Go.Proofs.Ytgpclehnomkbmaa.Cu.left_c _ g A c 0 _ _ (by omega) (by omega) B_g) ?_)
   rintro e w20 ⟨rfl, hk⟩
   replace B_g := kp_blk B_g hk (fun h => h)
   replace B_g1 := kp_blk B_g1 hk (fun h => h)
   replace B_g4 := kp_blk B_g4 hk (fun h => h)
   replace B_g7 := kp_blk B_g7 hk (fun h => h)
   replace B_g10 := kp_blk B_g10 hk (fun h => h)
   replace K_0 := K_0.then_ hk (fun _ h => h.elim)
   refine ⟨_, rfl, ?_⟩; clear hE a; intro a hE
   refine ⟨⟨B_g1, B_g4, B_g7, trivial⟩, ?_⟩
   have hnb_g := blk_lt B_g
   have hnb_g1 := blk_lt B_g1
   have hnb_g4 := blk_lt B_g4
   have hnb_g7 := blk_lt B_g7
   have hnb_g10 := blk_lt B_g10
   have hnz_0 := K_0.kept.1
   refine d_one (by kernel_rfl) rfl (s_call (xs := [Operand.tmp 20, Operand.tmp 23]) (args := [Value.pointer (some ⟨g, 0, none⟩), Value.int .i64 (d.length : Int)]) p111_6_5 hE wn_none rfl rfl Try.func67 cl67 (Go.Proofs.Ytgpclehnomkbmaa.Cu.bytes_e g A c d 0 d.length 0 (d.length : Int) rfl d.length 0 (pN_all _) (rN_ok (by omega)) _ (by omega) (by omega) (by omega) (by omega) d (lN_all d) (by omega) B_g (fun W hk => F_A W (K_0.then_ hk (fun k h => by rw [show k = g from h]; exact Or.inl rfl)))) ?_)
   rintro e w24 ⟨A22, c23, rfl, O_q21, _, B_g', hk⟩
   replace B_g1 := kp_blk B_g1 hk (Ne.symm n_g_g1)
   replace B_g4 := kp_blk B_g4 hk (Ne.symm n_g_g4)
   replace B_g7 := kp_blk B_g7 hk (Ne.symm n_g_g7)
   replace B_g10 := kp_blk B_g10 hk (Ne.symm n_g_g10)
   replace K_0 := K_0.then_ hk (fun k h => by rw [show k = g from h]; exact Or.inl rfl)
   replace B_g := B_g'
   have Nb_q21_g : ¬ OB A22 g := fun h => by have := (own_ob O_q21 h).1; have := hnb_g; omega
   have Nb_q21_g1 : ¬ OB A22 g1 := fun h => by have := (own_ob O_q21 h).1; have := hnb_g1; omega
   have Nb_q21_g4 : ¬ OB A22 g4 := fun h => by have := (own_ob O_q21 h).1; have := hnb_g4; omega
   have Nb_q21_g7 : ¬ OB A22 g7 := fun h => by have := (own_ob O_q21 h).1; have := hnb_g7; omega
   have Nb_q21_g10 : ¬ OB A22 g10 := fun h => by have := (own_ob O_q21 h).1; have := hnb_g10; omega
   have Z_0_q21 : ∀ k, OB A22 k → (fun k => k = g) k ∨ w.heap.size ≤ k := fun k h => .inr (by have := (own_ob O_q21 h).1; have := hnz_0; omega)
   replace O_q21 := own_lower O_q21 hnz_0
   refine ⟨_, rfl, ?_⟩; clear hE a; intro a hE
   refine ⟨⟨B_g1, B_g4, B_g7, trivial⟩, ?_⟩
   refine Rv.dq (v := Value.pointer (some ⟨g10, 18, none⟩)) p111_6_6 ns111_6 hE wn_none ⟨B_g1, B_g4, B_g7, trivial⟩ (fun W hS => (st_fieldAddr Try.underlying50 rfl tS22 rfl rfl)) ?_; clear hE a; intro a hE
   refine d_one (by kernel_rfl) rfl (s_store (off := 18) (k := 1) (cs' := (([Value.int .i64 (2 : Int), Value.slice none 0 0] ++ b16 (fun _ => 0) ++ [Value.slice A22 d.length c23])).toArray) p111_6_7 hE wn_none tS22 rfl rfl rfl rfl B_g10 (Nat.le_of_ble_eq_true rfl) rfl ?_)
   intro w25 B_g10' hk
   replace B_g := kp_blk B_g hk n_g_g10
   replace B_g1 := kp_blk B_g1 hk n_g1_g10
   replace B_g4 := kp_blk B_g4 hk n_g4_g10
   replace B_g7 := kp_blk B_g7 hk n_g7_g10
   replace O_q21 := own_keep O_q21 hk (fun k hk2 h2 => Nb_q21_g10 (by rw [show k = g10 from h2] at hk2; exact hk2))
   replace K_0 := K_0.then_ hk (fun k h => by rw [show k = g10 from h]; exact Or.inr z_0_g10)
   replace B_g10 := B_g10'
   clear hk
   refine ⟨⟨B_g1, B_g4, B_g7, trivial⟩, ?_⟩
   refine d_end (by kernel_rfl) ?_
   refine x_norm (c_reg R111_7_l ?_)
   refine q0 p111_7_0 hE (st_loadN (off := 0) (k := 19) (vs := ([Value.int .i64 (2 : Int), Value.slice none 0 0] ++ b16 (fun _ => 0) ++ [Value.slice A22 d.length c23])) tA50 tS50 rfl B_g10 rfl rfl) ?_; clear hE a; intro a hE
   refine p_cons (s_store (off := 0) (k := 19) (cs' := (([Value.int .i64 (2 : Int), Value.slice none 0 0] ++ b16 (fun _ => 0) ++ [Value.slice A22 d.length c23])).toArray) p111_7_1 hE wn_none tS50 rfl rfl rfl rfl B_g7 (Nat.le_of_ble_eq_true rfl) rfl ?_)
   intro w26 B_g7' hk
   replace B_g := kp_blk B_g hk n_g_g7
   replace B_g1 := kp_blk B_g1 hk n_g1_g7
   replace B_g4 := kp_blk B_g4 hk n_g4_g7
   replace B_g10 := kp_blk B_g10 hk (Ne.symm n_g7_g10)
   replace O_q21 := own_keep O_q21 hk (fun k hk2 h2 => Nb_q21_g7 (by rw [show k = g7 from h2] at hk2; exact hk2))
   replace K_0 := K_0.then_ hk (fun k h => by rw [show k = g7 from h]; exact Or.inr z_0_g7)
   replace B_g7 := B_g7'
   clear hk
   refine p_nil (x_norm (wp_ret (x_retB (x_ret ?_))))
   refine ret_one (v := Value.agg (([Value.int .i64 (2 : Int), Value.slice none 0 0] ++ b16 (fun _ => 0) ++ [Value.slice A22 d.length c23])).toArray) rfl hE (.cellN (us := ([Value.int .i64 (2 : Int), Value.slice none 0 0] ++ b16 (fun _ => 0) ++ [Value.slice A22 d.length c23])) tA50 tS50 rfl B_g7 rfl .nil) ?_
   have e9 : okD 2 d = true := rfl
   exact ⟨none, 0, _, _, (2, [], l16 (fun _ => 0), d), d.length, 0, rfl, Nat.le_refl _, (own_caps O_q21).1, fun W' hk => Kd.C_nil _ _, fun W' hk => own_told (own_keep O_q21 hk (fun k h h2 => by have := (own_ob O_q21 h).1; omega)), B_g, Nat.le_refl _, by unfold clF; rw [if_pos rfl, if_neg (by omega), if_pos e9], fun _ => rfl, K_0⟩
  ·
   refine c_reg R111_5_l ?_
   refine q0 p111_5_0 hE (st_eql (b := false) rfl rfl (decide_eq_false (by omega))) ?_; clear hE a; intro a hE
   refine q0 p111_5_1 hE (st_assign rfl) ?_; clear hE a; intro a hE
   refine p_nil (x_norm ?_)
   refine c_cond (t := false) hE rfl ?_
   refine wp_skip (x_normB (x_norm ?_))
   refine Rv.join_have (y := .seq (.seq (.region 10 (regOf Try.f111 10) false) (.block 1 (.loop (.seq (.region 11 (regOf Try.f111 11) false) (.seq (.cond (Operand.tmp 40) (.skip) (.exit 1)) (.seq (.block 2 (.seq (.region 12 (regOf Try.f111 12) false) (.seq (.seq (.region 13 (regOf Try.f111 13) false) (.cond (Operand.tmp 55) (.region 14 (regOf Try.f111 14) true) (.skip))) (.region 15 (regOf Try.f111 15) true)))) (.region 16 (regOf Try.f111 16) false))))))) (.seq (.seq (.region 17 (regOf Try.f111 17) false) (.cond (Operand.tmp 78) (.region 18 (regOf Try.f111 18) true) (.skip))) (.seq (.region 19 (regOf Try.f111 19) false) (.ret)))) (I := fun a W => ∃ (r0 : Int), En 86 a [(0, Value.agg #[Value.pointer (some ⟨g, 0, none⟩)]), (1, Value.int .i64 (k : Int)), (2, Value.agg #[Value.string (wordF k), Value.slice A1 ((sizesF k).length) c1, Value.int .i64 (behindF k), Value.bool (addrF k), Value.int .i64 (lenF k), Value.int .i64 (zeroF k)]), (3, Value.pointer (some ⟨g1, 0, none⟩)), (5, Value.pointer (some ⟨g4, 0, none⟩)), (6, Value.pointer (some ⟨g7, 0, none⟩)), (7, Value.pointer (some ⟨g10, 0, none⟩)), (12, Value.int .i64 (k : Int)), (13, Value.bool false), (17, Value.bool false)] ∧ (((r0 = 0 ∧ d.length = plainF k) ∨ (r0 = 3 ∧ ¬ d.length = plainF k))) ∧ W.heap[g]? = some (.cells #[Value.slice A d.length c, Value.int .i64 0, Value.int .i64 r0] 188 (0, 0)) ∧ W.heap[g1]? = some (.cells #[Value.pointer (some ⟨g, 0, none⟩)] 107 (0, 0)) ∧ W.heap[g4]? = some (.cells #[Value.string (wordF k), Value.slice A1 ((sizesF k).length) c1, Value.int .i64 (behindF k), Value.bool (addrF k), Value.int .i64 (lenF k), Value.int .i64 (zeroF k)] 116 (0, 0)) ∧ W.heap[g7]? = some (.cells (([Value.int .i64 0, Value.slice none 0 0] ++ b16 (fun _ => 0) ++ [Value.slice none 0 0])).toArray 50 (0, 0)) ∧ W.heap[g10]? = some (.cells (([Value.int .i64 (k : Int), Value.slice none 0 0] ++ b16 (fun _ => 0) ++ [Value.slice none 0 0])).toArray 50 (0, 0)) ∧ Kp w W (fun k => k = g)) ?_ (fun jn10 => ?_)
   ·
    clear hE a
    rintro a w27 ⟨r0, hE, hr0, B_g, B_g1, B_g4, B_g7, B_g10, K_0⟩
    refine wp_seq (c_reg R111_10_l ?_)
    refine q0 p111_10_0 hE (st_fieldAddr Try.underlying116 rfl tS42 rfl rfl) ?_; clear hE a; intro a hE
    refine q0 p111_10_1 hE (st_load1 tA42 rfl ((blk_cell B_g4 1).trans rfl)) ?_; clear hE a; intro a hE
    refine q0 p111_10_2 hE (st_len Try.underlying42 rfl) ?_; clear hE a; intro a hE
    refine q0 p111_10_3 hE (st_move rfl) ?_; clear hE a; intro a hE
    refine p_nil (x_norm (wp_block ?_))
    have O_o := own_none w27 w.heap.size 3 1
    have Nb_o_g : ¬ OB none g := ob_nil
    have Nb_o_g1 : ¬ OB none g1 := ob_nil
    have Nb_o_g4 : ¬ OB none g4 := ob_nil
    have Nb_o_g7 : ¬ OB none g7 := ob_nil
    have Nb_o_g10 : ¬ OB none g10 := ob_nil
    have Z_0_o : ∀ k, OB none k → (fun k => k = g) k ∨ w.heap.size ≤ k := fun k h => absurd h ob_nil
    replace B_g10 : w27.heap[g10]? = some (.cells (([Value.int .i64 (k : Int), Value.slice none 0 0] ++ b16 (fQ r0 k d 0) ++ [Value.slice none 0 0])).toArray 50 (0, 0)) := by rw [fQ_zero]; exact B_g10
    have hp0 : pQ r0 (posO k 0) = 0 := by unfold pQ; split; unfold posO; rw [if_neg (by omega)]; rfl; rfl
    have hn0 : nQ r0 k d 0 = [] := List.eq_nil_of_length_eq_zero (nQ_len r0 k d 0)
    have B_g0 := B_g
    replace B_g : w27.heap[g]? = some (.cells #[Value.slice A d.length c, Value.int .i64 (pQ r0 (posO k 0) : Int), Value.int .i64 r0] 188 (0, 0)) := by rw [hp0]; exact B_g0
    replace O_o : w27.ownsRow w.heap.size 3 1 (.slice none 0 0) 0 (encs (Value.int .i64) (nQ r0 k d 0)) := by rw [hn0]; exact O_o
    refine c_loop (α := Nat) (fun i a W => ∃ (A_o : Option Addr) (c_o : Nat) (n_o : Nat), En 86 a [(0, Value.agg #[Value.pointer (some ⟨g, 0, none⟩)]), (1, Value.int .i64 (k : Int)), (2, Value.agg #[Value.string (wordF k), Value.slice A1 ((sizesF k).length) c1, Value.int .i64 (behindF k), Value.bool (addrF k), Value.int .i64 (lenF k), Value.int .i64 (zeroF k)]), (3, Value.pointer (some ⟨g1, 0, none⟩)), (5, Value.pointer (some ⟨g4, 0, none⟩)), (6, Value.pointer (some ⟨g7, 0, none⟩)), (7, Value.pointer (some ⟨g10, 0, none⟩)), (12, Value.int .i64 (k : Int)), (13, Value.bool false), (17, Value.bool false), (37, Value.slice A1 ((sizesF k).length) c1), (38, Value.int .i64 ((sizesF k).length : Int)), (39, Value.int .i64 (i : Int))] ∧ i ≤ (sizesF k).length ∧ W.heap[g]? = some (.cells #[Value.slice A d.length c, Value.int .i64 (pQ r0 (posO k i) : Int), Value.int .i64 r0] 188 (0, 0)) ∧ W.heap[g1]? = some (.cells #[Value.pointer (some ⟨g, 0, none⟩)] 107 (0, 0)) ∧ W.heap[g4]? = some (.cells #[Value.string (wordF k), Value.slice A1 ((sizesF k).length) c1, Value.int .i64 (behindF k), Value.bool (addrF k), Value.int .i64 (lenF k), Value.int .i64 (zeroF k)] 116 (0, 0)) ∧ W.heap[g7]? = some (.cells (([Value.int .i64 0, Value.slice none 0 0] ++ b16 (fun _ => 0) ++ [Value.slice none 0 0])).toArray 50 (0, 0)) ∧ W.heap[g10]? = some (.cells (([Value.int .i64 (k : Int), Value.slice A_o n_o c_o] ++ b16 (fQ r0 k d i) ++ [Value.slice none 0 0])).toArray 50 (0, 0)) ∧ n_o = (nQ r0 k d i).length ∧ W.ownsRow w.heap.size 3 1 (.slice A_o n_o c_o) n_o (encs (Value.int .i64) (nQ r0 k d i)) ∧ ¬ OB A_o g ∧ ¬ OB A_o g1 ∧ ¬ OB A_o g4 ∧ ¬ OB A_o g7 ∧ ¬ OB A_o g10 ∧ (∀ k, OB A_o k → (fun k => k = g) k ∨ w.heap.size ≤ k) ∧ Kp w W (fun k => k = g)) (fun i => (sizesF k).length - i) (0) ?_ ?_
    ·
     exact ⟨none, 0, 0, En.sub hE ⟨rfl, rfl, rfl, rfl, rfl, rfl, rfl, rfl, rfl, rfl, rfl, rfl, rfl, trivial⟩, Nat.zero_le _, B_g, B_g1, B_g4, B_g7, B_g10, (nQ_len r0 k d 0).symm, O_o, Nb_o_g, Nb_o_g1, Nb_o_g4, Nb_o_g7, Nb_o_g10, Z_0_o, K_0⟩
    ·
     clear hE a
     rintro i a w28 ⟨A_o, c_o, n_o, hE, hi9, B_g, B_g1, B_g4, B_g7, B_g10, hn_o, O_o, Nb_o_g, Nb_o_g1, Nb_o_g4, Nb_o_g7, Nb_o_g10, Z_0_o, K_0⟩
     have hnl9 := nQ_len r0 k d i
     have hl16 := xQ_len r0 k d
     refine c_reg R111_11_l ?_
     rcases Decidable.em ((i : Int) < ((sizesF k).length : Int)) with hc29 | hc29
     ·
      refine p_cons (s_still (v := Value.bool true) p111_11_0 hE wn_none rfl (st_lss rfl rfl (decide_eq_true hc29)) ?_); clear hE a; intro a hE
      refine p_nil (x_norm (wp_seq ?_))
      refine c_cond (t := true) hE rfl ?_
      refine wp_skip (x_norm (wp_seq (wp_block (c_reg R111_12_l ?_))))
      refine q0 p111_12_0 hE (st_move rfl) ?_; clear hE a; intro a hE
      refine q0 p111_12_1 hE (st_indexAddrC (i := i) Try.underlying42 tS3 (F_1 _ K_0) rfl rfl (by omega)) ?_; clear hE a; intro a hE
      refine q0 (v := Value.int .i64 (rd (sizesF k) (i : Int))) p111_12_2 hE (st_loadC (i := i) tA3 (F_1 _ K_0) (by omega) rfl) ?_; clear hE a; intro a hE
      refine q0 p111_12_3 hE (st_assign rfl) ?_; clear hE a; intro a hE
      refine q0 p111_12_4 hE (st_assign rfl) ?_; clear hE a; intro a hE
      refine p_nil (x_norm ?_)
      have hil : i < (sizesF k).length := by omega
      have hsz9 := sizes_fits hk9 hil
      have hps9 := pos_succ k i
      have hpl9 := pos_le k (show i + 1 ≤ (sizesF k).length by omega)
      have hpo9 := pos_off k i
      refine Rv.join_have (y := .region 15 (regOf Try.f111 15) true) (I := fun a W => En 86 a [(0, Value.agg #[Value.pointer (some ⟨g, 0, none⟩)]), (1, Value.int .i64 (k : Int)), (2, Value.agg #[Value.string (wordF k), Value.slice A1 ((sizesF k).length) c1, Value.int .i64 (behindF k), Value.bool (addrF k), Value.int .i64 (lenF k), Value.int .i64 (zeroF k)]), (3, Value.pointer (some ⟨g1, 0, none⟩)), (5, Value.pointer (some ⟨g4, 0, none⟩)), (6, Value.pointer (some ⟨g7, 0, none⟩)), (7, Value.pointer (some ⟨g10, 0, none⟩)), (12, Value.int .i64 (k : Int)), (13, Value.bool false), (17, Value.bool false), (37, Value.slice A1 ((sizesF k).length) c1), (38, Value.int .i64 ((sizesF k).length : Int)), (39, Value.int .i64 (i : Int)), (40, Value.bool true), (8, Value.int .i64 (i : Int)), (9, Value.int .i64 (rd (sizesF k) (i : Int)))] ∧ W.heap[g]? = some (.cells #[Value.slice A d.length c, Value.int .i64 (pQ r0 (offO k i) : Int), Value.int .i64 r0] 188 (0, 0)) ∧ W.heap[g1]? = some (.cells #[Value.pointer (some ⟨g, 0, none⟩)] 107 (0, 0)) ∧ W.heap[g4]? = some (.cells #[Value.string (wordF k), Value.slice A1 ((sizesF k).length) c1, Value.int .i64 (behindF k), Value.bool (addrF k), Value.int .i64 (lenF k), Value.int .i64 (zeroF k)] 116 (0, 0)) ∧ W.heap[g7]? = some (.cells (([Value.int .i64 0, Value.slice none 0 0] ++ b16 (fun _ => 0) ++ [Value.slice none 0 0])).toArray 50 (0, 0)) ∧ W.heap[g10]? = some (.cells (([Value.int .i64 (k : Int), Value.slice A_o n_o c_o] ++ b16 (fQ r0 k d (i + 1)) ++ [Value.slice none 0 0])).toArray 50 (0, 0)) ∧ W.ownsRow w.heap.size 3 1 (.slice A_o n_o c_o) n_o (encs (Value.int .i64) (nQ r0 k d i)) ∧ ¬ OB A_o g ∧ ¬ OB A_o g1 ∧ ¬ OB A_o g4 ∧ ¬ OB A_o g7 ∧ ¬ OB A_o g10 ∧ (∀ k, OB A_o k → (fun k => k = g) k ∨ w.heap.size ≤ k) ∧ Kp w W (fun k => k = g)) ?_ (fun jn15 => ?_)
      ·
       clear hE a
       rintro a w30 ⟨hE, B_g, B_g1, B_g4, B_g7, B_g10, O_o, Nb_o_g, Nb_o_g1, Nb_o_g4, Nb_o_g7, Nb_o_g10, Z_0_o, K_0⟩
       refine c_drawM (S := fun W => W.heap[g1]? = some (.cells #[Value.pointer (some ⟨g, 0, none⟩)] 107 (0, 0)) ∧ W.heap[g4]? = some (.cells #[Value.string (wordF k), Value.slice A1 ((sizesF k).length) c1, Value.int .i64 (behindF k), Value.bool (addrF k), Value.int .i64 (lenF k), Value.int .i64 (zeroF k)] 116 (0, 0)) ∧ W.heap[g7]? = some (.cells (([Value.int .i64 0, Value.slice none 0 0] ++ b16 (fun _ => 0) ++ [Value.slice none 0 0])).toArray 50 (0, 0)) ∧ True) rfl rfl (listed := #[false, false, false, false, false, false, false, false, false, false]) rfl (by repeat' first | exact pan_body | refine pan_then ?_ | refine pan_block ?_) (fun QQ hQ hend => ?_)
       have dr15_7 : ∀ (A15_7 : Option Addr) (c15_7 : Nat) (g15_6 : Nat) (W : World) (a : Act), En 86 a [(0, Value.agg #[Value.pointer (some ⟨g, 0, none⟩)]), (1, Value.int .i64 (k : Int)), (2, Value.agg #[Value.string (wordF k), Value.slice A1 ((sizesF k).length) c1, Value.int .i64 (behindF k), Value.bool (addrF k), Value.int .i64 (lenF k), Value.int .i64 (zeroF k)]), (3, Value.pointer (some ⟨g1, 0, none⟩)), (5, Value.pointer (some ⟨g4, 0, none⟩)), (6, Value.pointer (some ⟨g7, 0, none⟩)), (7, Value.pointer (some ⟨g10, 0, none⟩)), (8, Value.int .i64 (i : Int)), (9, Value.int .i64 (rd (sizesF k) (i : Int))), (12, Value.int .i64 (k : Int)), (13, Value.bool false), (17, Value.bool false), (37, Value.slice A1 ((sizesF k).length) c1), (38, Value.int .i64 ((sizesF k).length : Int)), (39, Value.int .i64 (i : Int)), (40, Value.bool true), (62, Value.pointer (some ⟨g10, 1, none⟩)), (63, Value.slice A_o n_o c_o), (64, Value.pointer (some ⟨g1, 0, none⟩)), (65, Value.pointer (some ⟨g, 0, none⟩)), (66, Value.int .i64 (rd (sizesF k) (i : Int))), (67, Value.int .i64 (vQ r0 k d i)), (68, Value.slice (some ⟨g15_6, 0, none⟩) 1 1), (69, Value.slice A15_7 (n_o + 1) c15_7), (70, Value.pointer (some ⟨g10, 1, none⟩))] → W.heap[g]? = some (.cells #[Value.slice A d.length c, Value.int .i64 (((pQ r0 (posO k (i + 1))) : Nat) : Int), Value.int .i64 r0] 188 (0, 0)) → W.heap[g1]? = some (.cells #[Value.pointer (some ⟨g, 0, none⟩)] 107 (0, 0)) → W.heap[g4]? = some (.cells #[Value.string (wordF k), Value.slice A1 ((sizesF k).length) c1, Value.int .i64 (behindF k), Value.bool (addrF k), Value.int .i64 (lenF k), Value.int .i64 (zeroF k)] 116 (0, 0)) → W.heap[g7]? = some (.cells (([Value.int .i64 0, Value.slice none 0 0] ++ b16 (fun _ => 0) ++ [Value.slice none 0 0])).toArray 50 (0, 0)) → W.heap[g10]? = some (.cells (([Value.int .i64 (k : Int), Value.slice A15_7 (n_o + 1) c15_7] ++ b16 (fQ r0 k d (i + 1)) ++ [Value.slice none 0 0])).toArray 50 (0, 0)) → W.heap[g15_6]? = some (.cells #[Value.int .i64 (vQ r0 k d i)] 3 (0, 0)) → g ≠ g15_6 → g1 ≠ g15_6 → g10 ≠ g15_6 → g10 ≠ g4 → g10 ≠ g7 → g15_6 ≠ g4 → g15_6 ≠ g7 → w.heap.size ≤ g15_6 → ¬ OB A15_7 g → ¬ OB A15_7 g1 → ¬ OB A15_7 g4 → ¬ OB A15_7 g7 → ¬ OB A15_7 g10 → ¬ OB A15_7 g15_6 → (∀ k, OB A15_7 k → (fun k => k = g) k ∨ w.heap.size ≤ k) → W.ownsRow w.heap.size 3 1 (.slice A15_7 (n_o + 1) c15_7) (n_o + 1) (encs (Value.int .i64) ((nQ r0 k d i) ++ [(vQ r0 k d i)])) → Kp w W (fun k => k = g) → wpAnyH Try.prog .any (regOf Try.f111 15) QQ (fun W => W.heap[g1]? = some (.cells #[Value.pointer (some ⟨g, 0, none⟩)] 107 (0, 0)) ∧ W.heap[g4]? = some (.cells #[Value.string (wordF k), Value.slice A1 ((sizesF k).length) c1, Value.int .i64 (behindF k), Value.bool (addrF k), Value.int .i64 (lenF k), Value.int .i64 (zeroF k)] 116 (0, 0)) ∧ W.heap[g7]? = some (.cells (([Value.int .i64 0, Value.slice none 0 0] ++ b16 (fun _ => 0) ++ [Value.slice none 0 0])).toArray 50 (0, 0)) ∧ True) 0 #[true, true, true, true, true, true, true, true, true, true] a W := by
        intro A15_7 c15_7 g15_6 w40 a hE B_g B_g1 B_g4 B_g7 B_g10 B_g15_6 n_g_g15_6 n_g1_g15_6 n_g10_g15_6 n_g10_g4 n_g10_g7 n_g15_6_g4 n_g15_6_g7 z_0_g15_6 Nb_o_g Nb_o_g1 Nb_o_g4 Nb_o_g7 Nb_o_g10 Nb_o_g15_6 Z_0_o O_o K_0
        refine d_end (by kernel_rfl) (hend _ _ ?_)
        refine x_normB (x_norm (c_regL R111_16_l ?_))
        refine q0 p111_16_0 hE (st_add (z := (i : Int) + 1) rfl rfl (wr_i64 _ (by omega) (by omega))) ?_; clear hE a; intro a hE
        refine q0 p111_16_1 hE (st_move rfl) ?_; clear hE a; intro a hE
        refine p_nil (x_norm ?_)
        have e9 : ((nQ r0 k d i) ++ [(vQ r0 k d i)]) = nQ r0 k d (i + 1) := nQ_succ r0 k d i
        rw [e9] at O_o
        exact ⟨i + 1, by omega, A15_7, c15_7, (n_o + 1), En.sub hE ⟨rfl, rfl, rfl, rfl, rfl, rfl, rfl, rfl, rfl, rfl, rfl, rfl, rfl, trivial⟩, by omega, B_g, B_g1, B_g4, B_g7, B_g10, (by rw [nQ_len]; omega), O_o, Nb_o_g, Nb_o_g1, Nb_o_g4, Nb_o_g7, Nb_o_g10, Z_0_o, K_0⟩
       have dr15_6 : ∀ (A15_7 : Option Addr) (c15_7 : Nat) (g15_6 : Nat) (W : World) (a : Act), En 86 a [(0, Value.agg #[Value.pointer (some ⟨g, 0, none⟩)]), (1, Value.int .i64 (k : Int)), (2, Value.agg #[Value.string (wordF k), Value.slice A1 ((sizesF k).length) c1, Value.int .i64 (behindF k), Value.bool (addrF k), Value.int .i64 (lenF k), Value.int .i64 (zeroF k)]), (3, Value.pointer (some ⟨g1, 0, none⟩)), (5, Value.pointer (some ⟨g4, 0, none⟩)), (6, Value.pointer (some ⟨g7, 0, none⟩)), (7, Value.pointer (some ⟨g10, 0, none⟩)), (8, Value.int .i64 (i : Int)), (9, Value.int .i64 (rd (sizesF k) (i : Int))), (12, Value.int .i64 (k : Int)), (13, Value.bool false), (17, Value.bool false), (37, Value.slice A1 ((sizesF k).length) c1), (38, Value.int .i64 ((sizesF k).length : Int)), (39, Value.int .i64 (i : Int)), (40, Value.bool true), (62, Value.pointer (some ⟨g10, 1, none⟩)), (63, Value.slice A_o n_o c_o), (64, Value.pointer (some ⟨g1, 0, none⟩)), (65, Value.pointer (some ⟨g, 0, none⟩)), (66, Value.int .i64 (rd (sizesF k) (i : Int))), (67, Value.int .i64 (vQ r0 k d i)), (68, Value.slice (some ⟨g15_6, 0, none⟩) 1 1), (69, Value.slice A15_7 (n_o + 1) c15_7), (70, Value.pointer (some ⟨g10, 1, none⟩))] → W.heap[g]? = some (.cells #[Value.slice A d.length c, Value.int .i64 (((pQ r0 (posO k (i + 1))) : Nat) : Int), Value.int .i64 r0] 188 (0, 0)) → W.heap[g1]? = some (.cells #[Value.pointer (some ⟨g, 0, none⟩)] 107 (0, 0)) → W.heap[g4]? = some (.cells #[Value.string (wordF k), Value.slice A1 ((sizesF k).length) c1, Value.int .i64 (behindF k), Value.bool (addrF k), Value.int .i64 (lenF k), Value.int .i64 (zeroF k)] 116 (0, 0)) → W.heap[g7]? = some (.cells (([Value.int .i64 0, Value.slice none 0 0] ++ b16 (fun _ => 0) ++ [Value.slice none 0 0])).toArray 50 (0, 0)) → W.heap[g10]? = some (.cells (([Value.int .i64 (k : Int), Value.slice A_o n_o c_o] ++ b16 (fQ r0 k d (i + 1)) ++ [Value.slice none 0 0])).toArray 50 (0, 0)) → W.heap[g15_6]? = some (.cells #[Value.int .i64 (vQ r0 k d i)] 3 (0, 0)) → g ≠ g15_6 → g1 ≠ g15_6 → g10 ≠ g15_6 → g10 ≠ g4 → g10 ≠ g7 → g15_6 ≠ g4 → g15_6 ≠ g7 → w.heap.size ≤ g15_6 → ¬ OB A15_7 g → ¬ OB A15_7 g1 → ¬ OB A15_7 g4 → ¬ OB A15_7 g7 → ¬ OB A15_7 g10 → ¬ OB A15_7 g15_6 → (∀ k, OB A15_7 k → (fun k => k = g) k ∨ w.heap.size ≤ k) → W.ownsRow w.heap.size 3 1 (.slice A15_7 (n_o + 1) c15_7) (n_o + 1) (encs (Value.int .i64) ((nQ r0 k d i) ++ [(vQ r0 k d i)])) → Kp w W (fun k => k = g) → wpAnyH Try.prog .any (regOf Try.f111 15) QQ (fun W => W.heap[g1]? = some (.cells #[Value.pointer (some ⟨g, 0, none⟩)] 107 (0, 0)) ∧ W.heap[g4]? = some (.cells #[Value.string (wordF k), Value.slice A1 ((sizesF k).length) c1, Value.int .i64 (behindF k), Value.bool (addrF k), Value.int .i64 (lenF k), Value.int .i64 (zeroF k)] 116 (0, 0)) ∧ W.heap[g7]? = some (.cells (([Value.int .i64 0, Value.slice none 0 0] ++ b16 (fun _ => 0) ++ [Value.slice none 0 0])).toArray 50 (0, 0)) ∧ True) 1 #[true, true, true, true, true, true, true, true, true, false] a W := by
        intro A15_7 c15_7 g15_6 w41 a hE B_g B_g1 B_g4 B_g7 B_g10 B_g15_6 n_g_g15_6 n_g1_g15_6 n_g10_g15_6 n_g10_g4 n_g10_g7 n_g15_6_g4 n_g15_6_g7 z_0_g15_6 Nb_o_g Nb_o_g1 Nb_o_g4 Nb_o_g7 Nb_o_g10 Nb_o_g15_6 Z_0_o O_o K_0
        refine d_all (rs := [9]) (by kernel_rfl) rfl ?_
        refine all_cons (d_lit (listed' := #[true, true, true, true, true, true, true, true, true, true]) rfl ?_) ?_
        ·
         refine (s_store (off := 1) (k := 1) (cs' := (([Value.int .i64 (k : Int), Value.slice A15_7 (n_o + 1) c15_7] ++ b16 (fQ r0 k d (i + 1)) ++ [Value.slice none 0 0])).toArray) p111_15_9 hE wn_none tS42 rfl rfl rfl rfl B_g10 (Nat.le_of_ble_eq_true rfl) rfl ?_)
         intro w42 B_g10' hk
         replace B_g := kp_blk B_g hk n_g_g10
         replace B_g1 := kp_blk B_g1 hk n_g1_g10
         replace B_g4 := kp_blk B_g4 hk (Ne.symm n_g10_g4)
         replace B_g7 := kp_blk B_g7 hk (Ne.symm n_g10_g7)
         replace B_g15_6 := kp_blk B_g15_6 hk (Ne.symm n_g10_g15_6)
         replace O_o := own_keep O_o hk (fun k hk2 h2 => Nb_o_g10 (by rw [show k = g10 from h2] at hk2; exact hk2))
         replace K_0 := K_0.then_ hk (fun k h => by rw [show k = g10 from h]; exact Or.inr z_0_g10)
         replace B_g10 := B_g10'
         clear hk
         refine ⟨⟨B_g1, B_g4, B_g7, trivial⟩, ?_⟩
         exact dr15_7 A15_7 c15_7 g15_6 _ a (En.sub hE ⟨rfl, rfl, rfl, rfl, rfl, rfl, rfl, rfl, rfl, rfl, rfl, rfl, rfl, rfl, rfl, rfl, rfl, rfl, rfl, rfl, rfl, rfl, rfl, rfl, rfl, trivial⟩) B_g B_g1 B_g4 B_g7 B_g10 B_g15_6 n_g_g15_6 n_g1_g15_6 n_g10_g15_6 n_g10_g4 n_g10_g7 n_g15_6_g4 n_g15_6_g7 z_0_g15_6 Nb_o_g Nb_o_g1 Nb_o_g4 Nb_o_g7 Nb_o_g10 Nb_o_g15_6 Z_0_o O_o K_0
        exact all_nil
       have dr15_5 : ∀ (g15_6 : Nat) (W : World) (a : Act), En 86 a [(0, Value.agg #[Value.pointer (some ⟨g, 0, none⟩)]), (1, Value.int .i64 (k : Int)), (2, Value.agg #[Value.string (wordF k), Value.slice A1 ((sizesF k).length) c1, Value.int .i64 (behindF k), Value.bool (addrF k), Value.int .i64 (lenF k), Value.int .i64 (zeroF k)]), (3, Value.pointer (some ⟨g1, 0, none⟩)), (5, Value.pointer (some ⟨g4, 0, none⟩)), (6, Value.pointer (some ⟨g7, 0, none⟩)), (7, Value.pointer (some ⟨g10, 0, none⟩)), (8, Value.int .i64 (i : Int)), (9, Value.int .i64 (rd (sizesF k) (i : Int))), (12, Value.int .i64 (k : Int)), (13, Value.bool false), (17, Value.bool false), (37, Value.slice A1 ((sizesF k).length) c1), (38, Value.int .i64 ((sizesF k).length : Int)), (39, Value.int .i64 (i : Int)), (40, Value.bool true), (62, Value.pointer (some ⟨g10, 1, none⟩)), (63, Value.slice A_o n_o c_o), (64, Value.pointer (some ⟨g1, 0, none⟩)), (65, Value.pointer (some ⟨g, 0, none⟩)), (66, Value.int .i64 (rd (sizesF k) (i : Int))), (67, Value.int .i64 (vQ r0 k d i)), (68, Value.slice (some ⟨g15_6, 0, none⟩) 1 1)] → W.heap[g]? = some (.cells #[Value.slice A d.length c, Value.int .i64 (((pQ r0 (posO k (i + 1))) : Nat) : Int), Value.int .i64 r0] 188 (0, 0)) → W.heap[g1]? = some (.cells #[Value.pointer (some ⟨g, 0, none⟩)] 107 (0, 0)) → W.heap[g4]? = some (.cells #[Value.string (wordF k), Value.slice A1 ((sizesF k).length) c1, Value.int .i64 (behindF k), Value.bool (addrF k), Value.int .i64 (lenF k), Value.int .i64 (zeroF k)] 116 (0, 0)) → W.heap[g7]? = some (.cells (([Value.int .i64 0, Value.slice none 0 0] ++ b16 (fun _ => 0) ++ [Value.slice none 0 0])).toArray 50 (0, 0)) → W.heap[g10]? = some (.cells (([Value.int .i64 (k : Int), Value.slice A_o n_o c_o] ++ b16 (fQ r0 k d (i + 1)) ++ [Value.slice none 0 0])).toArray 50 (0, 0)) → W.heap[g15_6]? = some (.cells #[Value.int .i64 (vQ r0 k d i)] 3 (0, 0)) → g ≠ g15_6 → g1 ≠ g15_6 → g10 ≠ g15_6 → g10 ≠ g4 → g10 ≠ g7 → g15_6 ≠ g4 → g15_6 ≠ g7 → w.heap.size ≤ g15_6 → ¬ OB A_o g15_6 → W.ownsRow w.heap.size 3 1 (.slice A_o n_o c_o) n_o (encs (Value.int .i64) (nQ r0 k d i)) → Kp w W (fun k => k = g) → wpAnyH Try.prog .any (regOf Try.f111 15) QQ (fun W => W.heap[g1]? = some (.cells #[Value.pointer (some ⟨g, 0, none⟩)] 107 (0, 0)) ∧ W.heap[g4]? = some (.cells #[Value.string (wordF k), Value.slice A1 ((sizesF k).length) c1, Value.int .i64 (behindF k), Value.bool (addrF k), Value.int .i64 (lenF k), Value.int .i64 (zeroF k)] 116 (0, 0)) ∧ W.heap[g7]? = some (.cells (([Value.int .i64 0, Value.slice none 0 0] ++ b16 (fun _ => 0) ++ [Value.slice none 0 0])).toArray 50 (0, 0)) ∧ True) 3 #[true, true, true, true, true, true, true, false, false, false] a W := by
        intro g15_6 w43 a hE B_g B_g1 B_g4 B_g7 B_g10 B_g15_6 n_g_g15_6 n_g1_g15_6 n_g10_g15_6 n_g10_g4 n_g10_g7 n_g15_6_g4 n_g15_6_g7 z_0_g15_6 Nb_o_g15_6 O_o K_0
        refine d_all (rs := [7]) (by kernel_rfl) rfl ?_
        refine all_cons (d_lit (listed' := #[true, true, true, true, true, true, true, true, false, false]) rfl ?_) ?_
        ·
         refine (s_appendC (xs := (nQ r0 k d i)) (ys := [(vQ r0 k d i)]) p111_15_7 hE wn_none rfl Try.underlying42 eD3 rfl O_o rfl (C_blk (k := .i64) (l := [(vQ r0 k d i)]) (off := 0) B_g15_6 ⟨rfl, Nat.le_of_ble_eq_true rfl⟩ rfl) (by omega) (by omega) K_0.kept.1 ?_)
         clear hE a; intro A15_7 c15_7 w44 O_o' hk hat a hE
         have Nb_o_g' := grow_n Nb_o_g (blk_lt B_g) hat
         have Nb_o_g1' := grow_n Nb_o_g1 (blk_lt B_g1) hat
         have Nb_o_g4' := grow_n Nb_o_g4 (blk_lt B_g4) hat
         have Nb_o_g7' := grow_n Nb_o_g7 (blk_lt B_g7) hat
         have Nb_o_g10' := grow_n Nb_o_g10 (blk_lt B_g10) hat
         have Nb_o_g15_6' := grow_n Nb_o_g15_6 (blk_lt B_g15_6) hat
         have Z_0_o' := grow_z Z_0_o K_0.kept.1 hat
         replace B_g := kp_blk B_g hk Nb_o_g
         replace B_g1 := kp_blk B_g1 hk Nb_o_g1
         replace B_g4 := kp_blk B_g4 hk Nb_o_g4
         replace B_g7 := kp_blk B_g7 hk Nb_o_g7
         replace B_g10 := kp_blk B_g10 hk Nb_o_g10
         replace B_g15_6 := kp_blk B_g15_6 hk Nb_o_g15_6
         replace K_0 := K_0.then_ hk Z_0_o
         replace Nb_o_g := Nb_o_g'
         replace Nb_o_g1 := Nb_o_g1'
         replace Nb_o_g4 := Nb_o_g4'
         replace Nb_o_g7 := Nb_o_g7'
         replace Nb_o_g10 := Nb_o_g10'
         replace Nb_o_g15_6 := Nb_o_g15_6'
         replace Z_0_o := Z_0_o'
         replace O_o : w44.ownsRow _ 3 1 (.slice A15_7 (n_o + 1) c15_7) (n_o + 1) (encs (Value.int .i64) ((nQ r0 k d i) ++ [(vQ r0 k d i)])) := O_o'
         clear O_o' hk hat
         refine ⟨⟨B_g1, B_g4, B_g7, trivial⟩, ?_⟩
         refine Rv.dq (listed' := #[true, true, true, true, true, true, true, true, true, false]) (v := Value.pointer (some ⟨g10, 1, none⟩)) p111_15_8 ns111_15 hE wn_none ⟨B_g1, B_g4, B_g7, trivial⟩ (fun W hS => (st_fieldAddr Try.underlying50 rfl tS42 rfl rfl)) ?_ (fun c a w h => hQ c a _ _ w h); clear hE a; intro a hE
         exact dr15_6 A15_7 c15_7 g15_6 _ a (En.sub hE ⟨rfl, rfl, rfl, rfl, rfl, rfl, rfl, rfl, rfl, rfl, rfl, rfl, rfl, rfl, rfl, rfl, rfl, rfl, rfl, rfl, rfl, rfl, rfl, rfl, rfl, trivial⟩) B_g B_g1 B_g4 B_g7 B_g10 B_g15_6 n_g_g15_6 n_g1_g15_6 n_g10_g15_6 n_g10_g4 n_g10_g7 n_g15_6_g4 n_g15_6_g7 z_0_g15_6 Nb_o_g Nb_o_g1 Nb_o_g4 Nb_o_g7 Nb_o_g10 Nb_o_g15_6 Z_0_o O_o K_0
        exact all_nil
       have dr15_4 : ∀ (g15_6 : Nat) (W : World) (a : Act), En 86 a [(0, Value.agg #[Value.pointer (some ⟨g, 0, none⟩)]), (1, Value.int .i64 (k : Int)), (2, Value.agg #[Value.string (wordF k), Value.slice A1 ((sizesF k).length) c1, Value.int .i64 (behindF k), Value.bool (addrF k), Value.int .i64 (lenF k), Value.int .i64 (zeroF k)]), (3, Value.pointer (some ⟨g1, 0, none⟩)), (5, Value.pointer (some ⟨g4, 0, none⟩)), (6, Value.pointer (some ⟨g7, 0, none⟩)), (7, Value.pointer (some ⟨g10, 0, none⟩)), (8, Value.int .i64 (i : Int)), (9, Value.int .i64 (rd (sizesF k) (i : Int))), (12, Value.int .i64 (k : Int)), (13, Value.bool false), (17, Value.bool false), (37, Value.slice A1 ((sizesF k).length) c1), (38, Value.int .i64 ((sizesF k).length : Int)), (39, Value.int .i64 (i : Int)), (40, Value.bool true), (62, Value.pointer (some ⟨g10, 1, none⟩)), (64, Value.pointer (some ⟨g1, 0, none⟩)), (65, Value.pointer (some ⟨g, 0, none⟩)), (66, Value.int .i64 (rd (sizesF k) (i : Int))), (67, Value.int .i64 (vQ r0 k d i)), (68, Value.slice (some ⟨g15_6, 0, none⟩) 1 1)] → W.heap[g]? = some (.cells #[Value.slice A d.length c, Value.int .i64 (((pQ r0 (posO k (i + 1))) : Nat) : Int), Value.int .i64 r0] 188 (0, 0)) → W.heap[g1]? = some (.cells #[Value.pointer (some ⟨g, 0, none⟩)] 107 (0, 0)) → W.heap[g4]? = some (.cells #[Value.string (wordF k), Value.slice A1 ((sizesF k).length) c1, Value.int .i64 (behindF k), Value.bool (addrF k), Value.int .i64 (lenF k), Value.int .i64 (zeroF k)] 116 (0, 0)) → W.heap[g7]? = some (.cells (([Value.int .i64 0, Value.slice none 0 0] ++ b16 (fun _ => 0) ++ [Value.slice none 0 0])).toArray 50 (0, 0)) → W.heap[g10]? = some (.cells (([Value.int .i64 (k : Int), Value.slice A_o n_o c_o] ++ b16 (fQ r0 k d (i + 1)) ++ [Value.slice none 0 0])).toArray 50 (0, 0)) → W.heap[g15_6]? = some (.cells #[Value.int .i64 (vQ r0 k d i)] 3 (0, 0)) → g ≠ g15_6 → g1 ≠ g15_6 → g10 ≠ g15_6 → g10 ≠ g4 → g10 ≠ g7 → g15_6 ≠ g4 → g15_6 ≠ g7 → w.heap.size ≤ g15_6 → ¬ OB A_o g15_6 → W.ownsRow w.heap.size 3 1 (.slice A_o n_o c_o) n_o (encs (Value.int .i64) (nQ r0 k d i)) → Kp w W (fun k => k = g) → wpAnyH Try.prog .any (regOf Try.f111 15) QQ (fun W => W.heap[g1]? = some (.cells #[Value.pointer (some ⟨g, 0, none⟩)] 107 (0, 0)) ∧ W.heap[g4]? = some (.cells #[Value.string (wordF k), Value.slice A1 ((sizesF k).length) c1, Value.int .i64 (behindF k), Value.bool (addrF k), Value.int .i64 (lenF k), Value.int .i64 (zeroF k)] 116 (0, 0)) ∧ W.heap[g7]? = some (.cells (([Value.int .i64 0, Value.slice none 0 0] ++ b16 (fun _ => 0) ++ [Value.slice none 0 0])).toArray 50 (0, 0)) ∧ True) 4 #[true, false, true, true, true, true, true, false, false, false] a W := by
        intro g15_6 w45 a hE B_g B_g1 B_g4 B_g7 B_g10 B_g15_6 n_g_g15_6 n_g1_g15_6 n_g10_g15_6 n_g10_g4 n_g10_g7 n_g15_6_g4 n_g15_6_g7 z_0_g15_6 Nb_o_g15_6 O_o K_0
        refine d_all (rs := [1]) (by kernel_rfl) rfl ?_
        refine all_cons (d_lit (listed' := #[true, true, true, true, true, true, true, false, false, false]) rfl ?_) ?_
        ·
         refine (s_still p111_15_1 hE wn_none rfl (st_load1 tA42 rfl ((blk_cell B_g10 1).trans rfl)) ?_); clear hE a; intro a hE
         refine ⟨⟨B_g1, B_g4, B_g7, trivial⟩, ?_⟩
         exact dr15_5 g15_6 _ a (En.sub hE ⟨rfl, rfl, rfl, rfl, rfl, rfl, rfl, rfl, rfl, rfl, rfl, rfl, rfl, rfl, rfl, rfl, rfl, rfl, rfl, rfl, rfl, rfl, rfl, trivial⟩) B_g B_g1 B_g4 B_g7 B_g10 B_g15_6 n_g_g15_6 n_g1_g15_6 n_g10_g15_6 n_g10_g4 n_g10_g7 n_g15_6_g4 n_g15_6_g7 z_0_g15_6 Nb_o_g15_6 O_o K_0
        exact all_nil
       have dr15_3 : ∀ (W : World) (a : Act), En 86 a [(0, Value.agg #[Value.pointer (some ⟨g, 0, none⟩)]), (1, Value.int .i64 (k : Int)), (2, Value.agg #[Value.string (wordF k), Value.slice A1 ((sizesF k).length) c1, Value.int .i64 (behindF k), Value.bool (addrF k), Value.int .i64 (lenF k), Value.int .i64 (zeroF k)]), (3, Value.pointer (some ⟨g1, 0, none⟩)), (5, Value.pointer (some ⟨g4, 0, none⟩)), (6, Value.pointer (some ⟨g7, 0, none⟩)), (7, Value.pointer (some ⟨g10, 0, none⟩)), (8, Value.int .i64 (i : Int)), (9, Value.int .i64 (rd (sizesF k) (i : Int))), (12, Value.int .i64 (k : Int)), (13, Value.bool false), (17, Value.bool false), (37, Value.slice A1 ((sizesF k).length) c1), (38, Value.int .i64 ((sizesF k).length : Int)), (39, Value.int .i64 (i : Int)), (40, Value.bool true), (62, Value.pointer (some ⟨g10, 1, none⟩)), (63, Value.slice A_o n_o c_o), (64, Value.pointer (some ⟨g1, 0, none⟩)), (65, Value.pointer (some ⟨g, 0, none⟩)), (66, Value.int .i64 (rd (sizesF k) (i : Int))), (67, Value.int .i64 (vQ r0 k d i))] → W.heap[g]? = some (.cells #[Value.slice A d.length c, Value.int .i64 (((pQ r0 (posO k (i + 1))) : Nat) : Int), Value.int .i64 r0] 188 (0, 0)) → W.heap[g1]? = some (.cells #[Value.pointer (some ⟨g, 0, none⟩)] 107 (0, 0)) → W.heap[g4]? = some (.cells #[Value.string (wordF k), Value.slice A1 ((sizesF k).length) c1, Value.int .i64 (behindF k), Value.bool (addrF k), Value.int .i64 (lenF k), Value.int .i64 (zeroF k)] 116 (0, 0)) → W.heap[g7]? = some (.cells (([Value.int .i64 0, Value.slice none 0 0] ++ b16 (fun _ => 0) ++ [Value.slice none 0 0])).toArray 50 (0, 0)) → W.heap[g10]? = some (.cells (([Value.int .i64 (k : Int), Value.slice A_o n_o c_o] ++ b16 (fQ r0 k d (i + 1)) ++ [Value.slice none 0 0])).toArray 50 (0, 0)) → g10 ≠ g4 → g10 ≠ g7 → W.ownsRow w.heap.size 3 1 (.slice A_o n_o c_o) n_o (encs (Value.int .i64) (nQ r0 k d i)) → Kp w W (fun k => k = g) → wpAnyH Try.prog .any (regOf Try.f111 15) QQ (fun W => W.heap[g1]? = some (.cells #[Value.pointer (some ⟨g, 0, none⟩)] 107 (0, 0)) ∧ W.heap[g4]? = some (.cells #[Value.string (wordF k), Value.slice A1 ((sizesF k).length) c1, Value.int .i64 (behindF k), Value.bool (addrF k), Value.int .i64 (lenF k), Value.int .i64 (zeroF k)] 116 (0, 0)) ∧ W.heap[g7]? = some (.cells (([Value.int .i64 0, Value.slice none 0 0] ++ b16 (fun _ => 0) ++ [Value.slice none 0 0])).toArray 50 (0, 0)) ∧ True) 4 #[true, true, true, true, true, true, false, false, false, false] a W := by
        intro w46 a hE B_g B_g1 B_g4 B_g7 B_g10 n_g10_g4 n_g10_g7 O_o K_0
        refine d_all (rs := [6]) (by kernel_rfl) rfl ?_
        refine all_cons (d_lit (listed' := #[true, true, true, true, true, true, true, false, false, false]) rfl ?_) ?_
        ·
         refine (s_row (xs := [(0, Operand.tmp 67)]) (vs := [(0, Value.int .i64 (vQ r0 k d i))]) (cs := #[Value.int .i64 (vQ r0 k d i)]) p111_15_6 hE wn_none rfl Try.underlying42 rfl (by kernel_rfl) ?_)
         clear hE a; intro g15_6 w47 z48 B_g15_6 hk a hE
         have n_g_g15_6 : g ≠ g15_6 := ne_new B_g z48
         have n_g1_g15_6 : g1 ≠ g15_6 := ne_new B_g1 z48
         have n_g4_g15_6 : g4 ≠ g15_6 := ne_new B_g4 z48
         have n_g7_g15_6 : g7 ≠ g15_6 := ne_new B_g7 z48
         have n_g10_g15_6 : g10 ≠ g15_6 := ne_new B_g10 z48
         have z_0_g15_6 := Nat.le_trans K_0.kept.1 z48
         have Nb_o_g15_6 : ¬ OB A_o g15_6 := fun h => by have := (own_ob O_o h).2; omega
         replace B_g := kp_blk B_g hk (fun h => h)
         replace B_g1 := kp_blk B_g1 hk (fun h => h)
         replace B_g4 := kp_blk B_g4 hk (fun h => h)
         replace B_g7 := kp_blk B_g7 hk (fun h => h)
         replace B_g10 := kp_blk B_g10 hk (fun h => h)
         replace O_o := own_keep O_o hk (fun _ _ h => h)
         replace K_0 := K_0.then_ hk (fun _ h => h.elim)
         clear hk
         refine ⟨⟨B_g1, B_g4, B_g7, trivial⟩, ?_⟩
         have n_g15_6_g4 := Ne.symm n_g4_g15_6
         have n_g15_6_g7 := Ne.symm n_g7_g15_6
         exact dr15_5 g15_6 _ a (En.sub hE ⟨rfl, rfl, rfl, rfl, rfl, rfl, rfl, rfl, rfl, rfl, rfl, rfl, rfl, rfl, rfl, rfl, rfl, rfl, rfl, rfl, rfl, rfl, rfl, trivial⟩) B_g B_g1 B_g4 B_g7 B_g10 B_g15_6 n_g_g15_6 n_g1_g15_6 n_g10_g15_6 n_g10_g4 n_g10_g7 n_g15_6_g4 n_g15_6_g7 z_0_g15_6 Nb_o_g15_6 O_o K_0
        exact all_nil
       have dr15_2 : ∀ (W : World) (a : Act), En 86 a [(0, Value.agg #[Value.pointer (some ⟨g, 0, none⟩)]), (1, Value.int .i64 (k : Int)), (2, Value.agg #[Value.string (wordF k), Value.slice A1 ((sizesF k).length) c1, Value.int .i64 (behindF k), Value.bool (addrF k), Value.int .i64 (lenF k), Value.int .i64 (zeroF k)]), (3, Value.pointer (some ⟨g1, 0, none⟩)), (5, Value.pointer (some ⟨g4, 0, none⟩)), (6, Value.pointer (some ⟨g7, 0, none⟩)), (7, Value.pointer (some ⟨g10, 0, none⟩)), (8, Value.int .i64 (i : Int)), (9, Value.int .i64 (rd (sizesF k) (i : Int))), (12, Value.int .i64 (k : Int)), (13, Value.bool false), (17, Value.bool false), (37, Value.slice A1 ((sizesF k).length) c1), (38, Value.int .i64 ((sizesF k).length : Int)), (39, Value.int .i64 (i : Int)), (40, Value.bool true), (62, Value.pointer (some ⟨g10, 1, none⟩)), (64, Value.pointer (some ⟨g1, 0, none⟩)), (65, Value.pointer (some ⟨g, 0, none⟩)), (66, Value.int .i64 (rd (sizesF k) (i : Int))), (67, Value.int .i64 (vQ r0 k d i))] → W.heap[g]? = some (.cells #[Value.slice A d.length c, Value.int .i64 (((pQ r0 (posO k (i + 1))) : Nat) : Int), Value.int .i64 r0] 188 (0, 0)) → W.heap[g1]? = some (.cells #[Value.pointer (some ⟨g, 0, none⟩)] 107 (0, 0)) → W.heap[g4]? = some (.cells #[Value.string (wordF k), Value.slice A1 ((sizesF k).length) c1, Value.int .i64 (behindF k), Value.bool (addrF k), Value.int .i64 (lenF k), Value.int .i64 (zeroF k)] 116 (0, 0)) → W.heap[g7]? = some (.cells (([Value.int .i64 0, Value.slice none 0 0] ++ b16 (fun _ => 0) ++ [Value.slice none 0 0])).toArray 50 (0, 0)) → W.heap[g10]? = some (.cells (([Value.int .i64 (k : Int), Value.slice A_o n_o c_o] ++ b16 (fQ r0 k d (i + 1)) ++ [Value.slice none 0 0])).toArray 50 (0, 0)) → g10 ≠ g4 → g10 ≠ g7 → W.ownsRow w.heap.size 3 1 (.slice A_o n_o c_o) n_o (encs (Value.int .i64) (nQ r0 k d i)) → Kp w W (fun k => k = g) → wpAnyH Try.prog .any (regOf Try.f111 15) QQ (fun W => W.heap[g1]? = some (.cells #[Value.pointer (some ⟨g, 0, none⟩)] 107 (0, 0)) ∧ W.heap[g4]? = some (.cells #[Value.string (wordF k), Value.slice A1 ((sizesF k).length) c1, Value.int .i64 (behindF k), Value.bool (addrF k), Value.int .i64 (lenF k), Value.int .i64 (zeroF k)] 116 (0, 0)) ∧ W.heap[g7]? = some (.cells (([Value.int .i64 0, Value.slice none 0 0] ++ b16 (fun _ => 0) ++ [Value.slice none 0 0])).toArray 50 (0, 0)) ∧ True) 5 #[true, false, true, true, true, true, false, false, false, false] a W := by
        intro w49 a hE B_g B_g1 B_g4 B_g7 B_g10 n_g10_g4 n_g10_g7 O_o K_0
        refine d_all (rs := [1, 6]) (by kernel_rfl) rfl ?_
        refine all_cons (d_lit (listed' := #[true, true, true, true, true, true, false, false, false, false]) rfl ?_) ?_
        ·
         refine (s_still p111_15_1 hE wn_none rfl (st_load1 tA42 rfl ((blk_cell B_g10 1).trans rfl)) ?_); clear hE a; intro a hE
         refine ⟨⟨B_g1, B_g4, B_g7, trivial⟩, ?_⟩
         exact dr15_3 _ a (En.sub hE ⟨rfl, rfl, rfl, rfl, rfl, rfl, rfl, rfl, rfl, rfl, rfl, rfl, rfl, rfl, rfl, rfl, rfl, rfl, rfl, rfl, rfl, rfl, trivial⟩) B_g B_g1 B_g4 B_g7 B_g10 n_g10_g4 n_g10_g7 O_o K_0
        refine all_cons (d_lit (listed' := #[true, false, true, true, true, true, true, false, false, false]) rfl ?_) ?_
        ·
         refine (s_row (xs := [(0, Operand.tmp 67)]) (vs := [(0, Value.int .i64 (vQ r0 k d i))]) (cs := #[Value.int .i64 (vQ r0 k d i)]) p111_15_6 hE wn_none rfl Try.underlying42 rfl (by kernel_rfl) ?_)
         clear hE a; intro g15_6 w50 z51 B_g15_6 hk a hE
         have n_g_g15_6 : g ≠ g15_6 := ne_new B_g z51
         have n_g1_g15_6 : g1 ≠ g15_6 := ne_new B_g1 z51
         have n_g4_g15_6 : g4 ≠ g15_6 := ne_new B_g4 z51
         have n_g7_g15_6 : g7 ≠ g15_6 := ne_new B_g7 z51
         have n_g10_g15_6 : g10 ≠ g15_6 := ne_new B_g10 z51
         have z_0_g15_6 := Nat.le_trans K_0.kept.1 z51
         have Nb_o_g15_6 : ¬ OB A_o g15_6 := fun h => by have := (own_ob O_o h).2; omega
         replace B_g := kp_blk B_g hk (fun h => h)
         replace B_g1 := kp_blk B_g1 hk (fun h => h)
         replace B_g4 := kp_blk B_g4 hk (fun h => h)
         replace B_g7 := kp_blk B_g7 hk (fun h => h)
         replace B_g10 := kp_blk B_g10 hk (fun h => h)
         replace O_o := own_keep O_o hk (fun _ _ h => h)
         replace K_0 := K_0.then_ hk (fun _ h => h.elim)
         clear hk
         refine ⟨⟨B_g1, B_g4, B_g7, trivial⟩, ?_⟩
         have n_g15_6_g4 := Ne.symm n_g4_g15_6
         have n_g15_6_g7 := Ne.symm n_g7_g15_6
         exact dr15_4 g15_6 _ a (En.sub hE ⟨rfl, rfl, rfl, rfl, rfl, rfl, rfl, rfl, rfl, rfl, rfl, rfl, rfl, rfl, rfl, rfl, rfl, rfl, rfl, rfl, rfl, rfl, trivial⟩) B_g B_g1 B_g4 B_g7 B_g10 B_g15_6 n_g_g15_6 n_g1_g15_6 n_g10_g15_6 n_g10_g4 n_g10_g7 n_g15_6_g4 n_g15_6_g7 z_0_g15_6 Nb_o_g15_6 O_o K_0
        exact all_nil
       have dr15_1 : ∀ (W : World) (a : Act), En 86 a [(0, Value.agg #[Value.pointer (some ⟨g, 0, none⟩)]), (1, Value.int .i64 (k : Int)), (2, Value.agg #[Value.string (wordF k), Value.slice A1 ((sizesF k).length) c1, Value.int .i64 (behindF k), Value.bool (addrF k), Value.int .i64 (lenF k), Value.int .i64 (zeroF k)]), (3, Value.pointer (some ⟨g1, 0, none⟩)), (5, Value.pointer (some ⟨g4, 0, none⟩)), (6, Value.pointer (some ⟨g7, 0, none⟩)), (7, Value.pointer (some ⟨g10, 0, none⟩)), (8, Value.int .i64 (i : Int)), (9, Value.int .i64 (rd (sizesF k) (i : Int))), (12, Value.int .i64 (k : Int)), (13, Value.bool false), (17, Value.bool false), (37, Value.slice A1 ((sizesF k).length) c1), (38, Value.int .i64 ((sizesF k).length : Int)), (39, Value.int .i64 (i : Int)), (40, Value.bool true), (62, Value.pointer (some ⟨g10, 1, none⟩)), (63, Value.slice A_o n_o c_o), (64, Value.pointer (some ⟨g1, 0, none⟩)), (65, Value.pointer (some ⟨g, 0, none⟩)), (66, Value.int .i64 (rd (sizesF k) (i : Int)))] → W.heap[g]? = some (.cells #[Value.slice A d.length c, Value.int .i64 (pQ r0 (offO k i) : Int), Value.int .i64 r0] 188 (0, 0)) → W.heap[g1]? = some (.cells #[Value.pointer (some ⟨g, 0, none⟩)] 107 (0, 0)) → W.heap[g4]? = some (.cells #[Value.string (wordF k), Value.slice A1 ((sizesF k).length) c1, Value.int .i64 (behindF k), Value.bool (addrF k), Value.int .i64 (lenF k), Value.int .i64 (zeroF k)] 116 (0, 0)) → W.heap[g7]? = some (.cells (([Value.int .i64 0, Value.slice none 0 0] ++ b16 (fun _ => 0) ++ [Value.slice none 0 0])).toArray 50 (0, 0)) → W.heap[g10]? = some (.cells (([Value.int .i64 (k : Int), Value.slice A_o n_o c_o] ++ b16 (fQ r0 k d (i + 1)) ++ [Value.slice none 0 0])).toArray 50 (0, 0)) → g10 ≠ g4 → g10 ≠ g7 → W.ownsRow w.heap.size 3 1 (.slice A_o n_o c_o) n_o (encs (Value.int .i64) (nQ r0 k d i)) → Kp w W (fun k => k = g) → wpAnyH Try.prog .any (regOf Try.f111 15) QQ (fun W => W.heap[g1]? = some (.cells #[Value.pointer (some ⟨g, 0, none⟩)] 107 (0, 0)) ∧ W.heap[g4]? = some (.cells #[Value.string (wordF k), Value.slice A1 ((sizesF k).length) c1, Value.int .i64 (behindF k), Value.bool (addrF k), Value.int .i64 (lenF k), Value.int .i64 (zeroF k)] 116 (0, 0)) ∧ W.heap[g7]? = some (.cells (([Value.int .i64 0, Value.slice none 0 0] ++ b16 (fun _ => 0) ++ [Value.slice none 0 0])).toArray 50 (0, 0)) ∧ True) 5 #[true, true, true, true, true, false, false, false, false, false] a W := by
        intro w52 a hE B_g B_g1 B_g4 B_g7 B_g10 n_g10_g4 n_g10_g7 O_o K_0
        refine d_all (rs := [5]) (by kernel_rfl) rfl ?_
        refine all_cons (d_lit (listed' := #[true, true, true, true, true, true, false, false, false, false]) rfl ?_) ?_
        ·
         refine (s_call (xs := [Operand.tmp 65, Operand.tmp 66]) (args := [Value.pointer (some ⟨g, 0, none⟩), Value.int .i64 (rd (sizesF k) (i : Int))]) p111_15_5 hE wn_none rfl rfl Try.func109 cl109 (Go.Proofs.Ytgpclehnomkbmaa.Cu.take_e g A c d (pQ r0 (offO k i)) ((rd (sizesF k) (i : Int)).toNat) r0 (rd (sizesF k) (i : Int)) (by omega) (pQ r0 (posO k (i + 1))) r0 (by rcases hr0 with ⟨h, hPL⟩ | ⟨h, hPL⟩; subst h; exact pN_ok (p := offO k i) (by omega) (by rw [show pQ 0 (posO k (i + 1)) = posO k (i + 1) from rfl]; omega); subst h; exact pN_was) (by rcases hr0 with ⟨h, hPL⟩ | ⟨h, hPL⟩; subst h; exact rN_ok (p := offO k i) (by omega); subst h; exact rN_was) _ (by rcases hr0 with ⟨h, hPL⟩ | ⟨h, hPL⟩; subst h; exact (show offO k i ≤ d.length by omega); subst h; exact Nat.zero_le _) (by omega) (by omega) (by omega) (vQ r0 k d i) (by rcases hr0 with ⟨h, hPL⟩ | ⟨h, hPL⟩; subst h; exact (by rw [show pQ 0 (offO k i) = offO k i from rfl, lN_ok (by omega)]; rfl); subst h; exact (by rw [lN_was]; rfl)) (by omega) (by rcases hsz9 with h | h | h <;> rw [h] <;> decide) hb B_g (fun W hk => F_A W (K_0.then_ hk (fun k h => by rw [show k = g from h]; exact Or.inl rfl)))) ?_)
         rintro e w53 ⟨rfl, B_g', hk⟩
         replace B_g1 := kp_blk B_g1 hk (Ne.symm n_g_g1)
         replace B_g4 := kp_blk B_g4 hk (Ne.symm n_g_g4)
         replace B_g7 := kp_blk B_g7 hk (Ne.symm n_g_g7)
         replace B_g10 := kp_blk B_g10 hk (Ne.symm n_g_g10)
         replace O_o := own_keep O_o hk (fun k hk2 h2 => Nb_o_g (by rw [show k = g from h2] at hk2; exact hk2))
         replace K_0 := K_0.then_ hk (fun k h => by rw [show k = g from h]; exact Or.inl rfl)
         replace B_g := B_g'
         refine ⟨_, rfl, ?_⟩; clear hE a; intro a hE
         refine ⟨⟨B_g1, B_g4, B_g7, trivial⟩, ?_⟩
         exact dr15_3 _ a (En.sub hE ⟨rfl, rfl, rfl, rfl, rfl, rfl, rfl, rfl, rfl, rfl, rfl, rfl, rfl, rfl, rfl, rfl, rfl, rfl, rfl, rfl, rfl, rfl, trivial⟩) B_g B_g1 B_g4 B_g7 B_g10 n_g10_g4 n_g10_g7 O_o K_0
        exact all_nil
       have dr15_0 : ∀ (W : World) (a : Act), En 86 a [(0, Value.agg #[Value.pointer (some ⟨g, 0, none⟩)]), (1, Value.int .i64 (k : Int)), (2, Value.agg #[Value.string (wordF k), Value.slice A1 ((sizesF k).length) c1, Value.int .i64 (behindF k), Value.bool (addrF k), Value.int .i64 (lenF k), Value.int .i64 (zeroF k)]), (3, Value.pointer (some ⟨g1, 0, none⟩)), (5, Value.pointer (some ⟨g4, 0, none⟩)), (6, Value.pointer (some ⟨g7, 0, none⟩)), (7, Value.pointer (some ⟨g10, 0, none⟩)), (8, Value.int .i64 (i : Int)), (9, Value.int .i64 (rd (sizesF k) (i : Int))), (12, Value.int .i64 (k : Int)), (13, Value.bool false), (17, Value.bool false), (37, Value.slice A1 ((sizesF k).length) c1), (38, Value.int .i64 ((sizesF k).length : Int)), (39, Value.int .i64 (i : Int)), (40, Value.bool true), (62, Value.pointer (some ⟨g10, 1, none⟩)), (64, Value.pointer (some ⟨g1, 0, none⟩)), (65, Value.pointer (some ⟨g, 0, none⟩)), (66, Value.int .i64 (rd (sizesF k) (i : Int)))] → W.heap[g]? = some (.cells #[Value.slice A d.length c, Value.int .i64 (pQ r0 (offO k i) : Int), Value.int .i64 r0] 188 (0, 0)) → W.heap[g1]? = some (.cells #[Value.pointer (some ⟨g, 0, none⟩)] 107 (0, 0)) → W.heap[g4]? = some (.cells #[Value.string (wordF k), Value.slice A1 ((sizesF k).length) c1, Value.int .i64 (behindF k), Value.bool (addrF k), Value.int .i64 (lenF k), Value.int .i64 (zeroF k)] 116 (0, 0)) → W.heap[g7]? = some (.cells (([Value.int .i64 0, Value.slice none 0 0] ++ b16 (fun _ => 0) ++ [Value.slice none 0 0])).toArray 50 (0, 0)) → W.heap[g10]? = some (.cells (([Value.int .i64 (k : Int), Value.slice A_o n_o c_o] ++ b16 (fQ r0 k d (i + 1)) ++ [Value.slice none 0 0])).toArray 50 (0, 0)) → W.ownsRow w.heap.size 3 1 (.slice A_o n_o c_o) n_o (encs (Value.int .i64) (nQ r0 k d i)) → Kp w W (fun k => k = g) → wpAnyH Try.prog .any (regOf Try.f111 15) QQ (fun W => W.heap[g1]? = some (.cells #[Value.pointer (some ⟨g, 0, none⟩)] 107 (0, 0)) ∧ W.heap[g4]? = some (.cells #[Value.string (wordF k), Value.slice A1 ((sizesF k).length) c1, Value.int .i64 (behindF k), Value.bool (addrF k), Value.int .i64 (lenF k), Value.int .i64 (zeroF k)] 116 (0, 0)) ∧ W.heap[g7]? = some (.cells (([Value.int .i64 0, Value.slice none 0 0] ++ b16 (fun _ => 0) ++ [Value.slice none 0 0])).toArray 50 (0, 0)) ∧ True) 6 #[true, false, true, true, true, false, false, false, false, false] a W := by
        intro w54 a hE B_g B_g1 B_g4 B_g7 B_g10 O_o K_0
        refine d_all (rs := [1, 5]) (by kernel_rfl) rfl ?_
        refine all_cons (d_lit (listed' := #[true, true, true, true, true, false, false, false, false, false]) rfl ?_) ?_
        ·
         refine (s_still p111_15_1 hE wn_none rfl (st_load1 tA42 rfl ((blk_cell B_g10 1).trans rfl)) ?_); clear hE a; intro a hE
         refine ⟨⟨B_g1, B_g4, B_g7, trivial⟩, ?_⟩
         have n_g10_g4 := Ne.symm n_g4_g10
         have n_g10_g7 := Ne.symm n_g7_g10
         exact dr15_1 _ a (En.sub hE ⟨rfl, rfl, rfl, rfl, rfl, rfl, rfl, rfl, rfl, rfl, rfl, rfl, rfl, rfl, rfl, rfl, rfl, rfl, rfl, rfl, rfl, trivial⟩) B_g B_g1 B_g4 B_g7 B_g10 n_g10_g4 n_g10_g7 O_o K_0
        refine all_cons (d_lit (listed' := #[true, false, true, true, true, true, false, false, false, false]) rfl ?_) ?_
        ·
         refine (s_call (xs := [Operand.tmp 65, Operand.tmp 66]) (args := [Value.pointer (some ⟨g, 0, none⟩), Value.int .i64 (rd (sizesF k) (i : Int))]) p111_15_5 hE wn_none rfl rfl Try.func109 cl109 (Go.Proofs.Ytgpclehnomkbmaa.Cu.take_e g A c d (pQ r0 (offO k i)) ((rd (sizesF k) (i : Int)).toNat) r0 (rd (sizesF k) (i : Int)) (by omega) (pQ r0 (posO k (i + 1))) r0 (by rcases hr0 with ⟨h, hPL⟩ | ⟨h, hPL⟩; subst h; exact pN_ok (p := offO k i) (by omega) (by rw [show pQ 0 (posO k (i + 1)) = posO k (i + 1) from rfl]; omega); subst h; exact pN_was) (by rcases hr0 with ⟨h, hPL⟩ | ⟨h, hPL⟩; subst h; exact rN_ok (p := offO k i) (by omega); subst h; exact rN_was) _ (by rcases hr0 with ⟨h, hPL⟩ | ⟨h, hPL⟩; subst h; exact (show offO k i ≤ d.length by omega); subst h; exact Nat.zero_le _) (by omega) (by omega) (by omega) (vQ r0 k d i) (by rcases hr0 with ⟨h, hPL⟩ | ⟨h, hPL⟩; subst h; exact (by rw [show pQ 0 (offO k i) = offO k i from rfl, lN_ok (by omega)]; rfl); subst h; exact (by rw [lN_was]; rfl)) (by omega) (by rcases hsz9 with h | h | h <;> rw [h] <;> decide) hb B_g (fun W hk => F_A W (K_0.then_ hk (fun k h => by rw [show k = g from h]; exact Or.inl rfl)))) ?_)
         rintro e w55 ⟨rfl, B_g', hk⟩
         replace B_g1 := kp_blk B_g1 hk (Ne.symm n_g_g1)
         replace B_g4 := kp_blk B_g4 hk (Ne.symm n_g_g4)
         replace B_g7 := kp_blk B_g7 hk (Ne.symm n_g_g7)
         replace B_g10 := kp_blk B_g10 hk (Ne.symm n_g_g10)
         replace O_o := own_keep O_o hk (fun k hk2 h2 => Nb_o_g (by rw [show k = g from h2] at hk2; exact hk2))
         replace K_0 := K_0.then_ hk (fun k h => by rw [show k = g from h]; exact Or.inl rfl)
         replace B_g := B_g'
         refine ⟨_, rfl, ?_⟩; clear hE a; intro a hE
         refine ⟨⟨B_g1, B_g4, B_g7, trivial⟩, ?_⟩
         have n_g10_g4 := Ne.symm n_g4_g10
         have n_g10_g7 := Ne.symm n_g7_g10
         exact dr15_2 _ a (En.sub hE ⟨rfl, rfl, rfl, rfl, rfl, rfl, rfl, rfl, rfl, rfl, rfl, rfl, rfl, rfl, rfl, rfl, rfl, rfl, rfl, rfl, rfl, trivial⟩) B_g B_g1 B_g4 B_g7 B_g10 n_g10_g4 n_g10_g7 O_o K_0
        exact all_nil
       intro w31 hh hk
       replace B_g := kp_blk B_g hk (fun h => h)
       replace B_g1 := kp_blk B_g1 hk (fun h => h)
       replace B_g4 := kp_blk B_g4 hk (fun h => h)
       replace B_g7 := kp_blk B_g7 hk (fun h => h)
       replace B_g10 := kp_blk B_g10 hk (fun h => h)
       replace O_o := own_keep O_o hk (fun _ _ h => h)
       replace K_0 := K_0.then_ hk (fun _ h => h.elim)
       clear hh hk
       refine Rv.dq (listed' := #[true, false, false, false, false, false, false, false, false, false]) (v := Value.pointer (some ⟨g10, 1, none⟩)) p111_15_0 ns111_15 hE wn_none ⟨B_g1, B_g4, B_g7, trivial⟩ (fun W hS => (st_fieldAddr Try.underlying50 rfl tS42 rfl rfl)) ?_ (fun c a w h => hQ c a _ _ w h); clear hE a; intro a hE
       refine Rv.dq (listed' := #[true, false, true, false, false, false, false, false, false, false]) (v := Value.pointer (some ⟨g1, 0, none⟩)) p111_15_2 ns111_15 hE wn_none ⟨B_g1, B_g4, B_g7, trivial⟩ (fun W hS => (st_fieldAddr Try.underlying107 rfl tS104 rfl rfl)) ?_ (fun c a w h => hQ c a _ _ w h); clear hE a; intro a hE
       refine Rv.dq (listed' := #[true, false, true, true, false, false, false, false, false, false]) (v := Value.pointer (some ⟨g, 0, none⟩)) p111_15_3 ns111_15 hE wn_none ⟨B_g1, B_g4, B_g7, trivial⟩ (fun W hS => (st_load1 tA104 rfl ((blk_cell hS.1 0).trans rfl))) ?_ (fun c a w h => hQ c a _ _ w h); clear hE a; intro a hE
       refine Rv.dq (listed' := #[true, false, true, true, true, false, false, false, false, false]) (v := Value.int .i64 (rd (sizesF k) (i : Int))) p111_15_4 ns111_15 hE wn_none ⟨B_g1, B_g4, B_g7, trivial⟩ (fun W hS => (st_move rfl)) ?_ (fun c a w h => hQ c a _ _ w h); clear hE a; intro a hE
       have n_g10_g4 := Ne.symm n_g4_g10
       have n_g10_g7 := Ne.symm n_g7_g10
       exact dr15_0 _ a (En.sub hE ⟨rfl, rfl, rfl, rfl, rfl, rfl, rfl, rfl, rfl, rfl, rfl, rfl, rfl, rfl, rfl, rfl, rfl, rfl, rfl, rfl, trivial⟩) B_g B_g1 B_g4 B_g7 B_g10 O_o K_0
      ·
       refine wp_seq (c_reg R111_13_l ?_)
       refine q0 p111_13_0 hE (st_move rfl) ?_; clear hE a; intro a hE
       refine q0 p111_13_1 hE (st_fieldAddr Try.underlying116 rfl tS42 rfl rfl) ?_; clear hE a; intro a hE
       refine q0 p111_13_2 hE (st_load1 tA42 rfl ((blk_cell B_g4 1).trans rfl)) ?_; clear hE a; intro a hE
       refine q0 p111_13_3 hE (st_len Try.underlying42 rfl) ?_; clear hE a; intro a hE
       refine q0 p111_13_4 hE (st_fieldAddr Try.underlying116 rfl tS3 rfl rfl) ?_; clear hE a; intro a hE
       refine q0 p111_13_5 hE (st_load1 tA3 rfl ((blk_cell B_g4 2).trans rfl)) ?_; clear hE a; intro a hE
       refine q0 p111_13_6 hE (st_sub (z := ((atF k : Nat) : Int)) rfl rfl (by rw [wr_i64 _ (by omega) (by omega)]; unfold atF; omega)) ?_; clear hE a; intro a hE
       rcases Decidable.em ((i : Int) = ((atF k : Nat) : Int)) with hc56 | hc56
       ·
        refine p_cons (s_still (v := Value.bool true) p111_13_7 hE wn_none rfl (st_eql rfl rfl (decide_eq_true hc56)) ?_); clear hE a; intro a hE
        refine q0 p111_13_8 hE (st_move rfl) ?_; clear hE a; intro a hE
        refine p_cons (s_still p111_13_9 hE (wn_some g111_13_8 rfl rfl) rfl (st_fieldAddr Try.underlying116 rfl tS4 rfl rfl) ?_); clear hE a; intro a hE
        refine p_cons (s_still p111_13_10 hE (wn_some g111_13_8 rfl rfl) rfl (st_load1 tA4 rfl ((blk_cell B_g4 3).trans rfl)) ?_); clear hE a; intro a hE
        refine q0 p111_13_11 hE (st_pick rfl rfl) ?_; clear hE a; intro a hE
        refine p_nil (x_norm ?_)
        rcases Bool.eq_false_or_eq_true (addrF k) with hb57 | hb57
        ·
         rw [hb57] at hE
         refine c_cond (t := true) hE rfl ?_
         have hi8 : i = atF k := by omega
         have hAD9 : addrF k = true := hb57
         have hpa9 : posO k i = aposF k := by rw [hi8]; exact pos_at k
         rw [if_pos ⟨hAD9, hi8⟩] at hps9 hpo9
         refine c_draw (S := fun W => W.heap[g1]? = some (.cells #[Value.pointer (some ⟨g, 0, none⟩)] 107 (0, 0)) ∧ W.heap[g4]? = some (.cells #[Value.string (wordF k), Value.slice A1 ((sizesF k).length) c1, Value.int .i64 (behindF k), Value.bool (addrF k), Value.int .i64 (lenF k), Value.int .i64 (zeroF k)] 116 (0, 0)) ∧ W.heap[g7]? = some (.cells (([Value.int .i64 0, Value.slice none 0 0] ++ b16 (fun _ => 0) ++ [Value.slice none 0 0])).toArray 50 (0, 0)) ∧ True) rfl rfl (listed := #[false, false, false, false, false, false]) rfl ?_
         intro w58 hh hk
         replace B_g := kp_blk B_g hk (fun h => h)
         replace B_g1 := kp_blk B_g1 hk (fun h => h)
         replace B_g4 := kp_blk B_g4 hk (fun h => h)
         replace B_g7 := kp_blk B_g7 hk (fun h => h)
         replace B_g10 := kp_blk B_g10 hk (fun h => h)
         replace O_o := own_keep O_o hk (fun _ _ h => h)
         replace K_0 := K_0.then_ hk (fun _ h => h.elim)
         clear hh hk
         refine Rv.dq (v := Value.pointer (some ⟨g10, 2, none⟩)) p111_14_0 ns111_14 hE wn_none ⟨B_g1, B_g4, B_g7, trivial⟩ (fun W hS => (st_fieldAddr Try.underlying50 rfl tS48 rfl rfl)) ?_; clear hE a; intro a hE
         refine Rv.dq (v := Value.slice (some ⟨g10, 2, none⟩) 16 16) p111_14_1 ns111_14 hE wn_none ⟨B_g1, B_g4, B_g7, trivial⟩ (fun W hS => (st_sliceA Try.underlying48 tS5 rfl)) ?_; clear hE a; intro a hE
         refine Rv.dq (v := Value.pointer (some ⟨g1, 0, none⟩)) p111_14_2 ns111_14 hE wn_none ⟨B_g1, B_g4, B_g7, trivial⟩ (fun W hS => (st_fieldAddr Try.underlying107 rfl tS104 rfl rfl)) ?_; clear hE a; intro a hE
         refine Rv.dq (v := Value.pointer (some ⟨g, 0, none⟩)) p111_14_3 ns111_14 hE wn_none ⟨B_g1, B_g4, B_g7, trivial⟩ (fun W hS => (st_load1 tA104 rfl ((blk_cell hS.1 0).trans rfl))) ?_; clear hE a; intro a hE
         have hnb_g := blk_lt B_g
         have hnb_g1 := blk_lt B_g1
         have hnb_g4 := blk_lt B_g4
         have hnb_g7 := blk_lt B_g7
         have hnb_g10 := blk_lt B_g10
         have hnz_0 := K_0.kept.1
         have hno_o := fun k (h : OB A_o k) => (own_ob O_o h).2
         refine d_one (by kernel_rfl) rfl (s_call (xs := [Operand.tmp 59, Operand.const (Value.int IntKind.i64 16)]) (args := [Value.pointer (some ⟨g, 0, none⟩), Value.int .i64 16]) p111_14_4 hE wn_none rfl rfl Try.func67 cl67 (Go.Proofs.Ytgpclehnomkbmaa.Cu.bytes_e g A c d (pQ r0 (posO k i)) 16 r0 16 rfl (pQ r0 (posO k i + 16)) r0 (by rcases hr0 with ⟨h, hPL⟩ | ⟨h, hPL⟩; subst h; exact pN_ok (p := posO k i) (by omega) rfl; subst h; exact pN_was) (by rcases hr0 with ⟨h, hPL⟩ | ⟨h, hPL⟩; subst h; exact rN_ok (p := posO k i) (by omega); subst h; exact rN_was) _ (by rcases hr0 with ⟨h, hPL⟩ | ⟨h, hPL⟩; subst h; exact (show posO k i ≤ d.length by omega); subst h; exact Nat.zero_le _) (by omega) (by omega) (by omega) (xQ r0 k d) (by rcases hr0 with ⟨h, hPL⟩ | ⟨h, hPL⟩; subst h; exact ((lN_ok (p := posO k i) (by omega)).trans (by rw [hpa9]; exact addr_list hAD9 (by omega))); subst h; exact lN_was) (by omega) B_g (fun W hk => F_A W (K_0.then_ hk (fun k h => by rw [show k = g from h]; exact Or.inl rfl)))) ?_)
         rintro e w62 ⟨A60, c61, rfl, O_q59, _, B_g', hk⟩
         replace B_g1 := kp_blk B_g1 hk (Ne.symm n_g_g1)
         replace B_g4 := kp_blk B_g4 hk (Ne.symm n_g_g4)
         replace B_g7 := kp_blk B_g7 hk (Ne.symm n_g_g7)
         replace B_g10 := kp_blk B_g10 hk (Ne.symm n_g_g10)
         replace O_o := own_keep O_o hk (fun k hk2 h2 => Nb_o_g (by rw [show k = g from h2] at hk2; exact hk2))
         replace K_0 := K_0.then_ hk (fun k h => by rw [show k = g from h]; exact Or.inl rfl)
         replace B_g := B_g'
         have Nb_q59_g : ¬ OB A60 g := fun h => by have := (own_ob O_q59 h).1; have := hnb_g; omega
         have Nb_q59_g1 : ¬ OB A60 g1 := fun h => by have := (own_ob O_q59 h).1; have := hnb_g1; omega
         have Nb_q59_g4 : ¬ OB A60 g4 := fun h => by have := (own_ob O_q59 h).1; have := hnb_g4; omega
         have Nb_q59_g7 : ¬ OB A60 g7 := fun h => by have := (own_ob O_q59 h).1; have := hnb_g7; omega
         have Nb_q59_g10 : ¬ OB A60 g10 := fun h => by have := (own_ob O_q59 h).1; have := hnb_g10; omega
         have Z_0_q59 : ∀ k, OB A60 k → (fun k => k = g) k ∨ w.heap.size ≤ k := fun k h => .inr (by have := (own_ob O_q59 h).1; have := hnz_0; omega)
         have NN_q59_o : ∀ k, OB A60 k → ¬ OB A_o k := fun k h h2 => by have := (own_ob O_q59 h).1; have := hno_o k h2; omega
         have NN_o_q59 : ∀ k, OB A_o k → ¬ OB A60 k := fun k h h2 => NN_q59_o k h2 h
         replace O_q59 := own_lower O_q59 hnz_0
         refine ⟨_, rfl, ?_⟩; clear hE a; intro a hE
         refine ⟨⟨B_g1, B_g4, B_g7, trivial⟩, ?_⟩
         refine d_one (by kernel_rfl) rfl (s_copy (k := .u8) (off := 2) (ys := (xQ r0 k d)) (cs' := (([Value.int .i64 (k : Int), Value.slice A_o n_o c_o] ++ b16 (aQ r0 k d) ++ [Value.slice none 0 0])).toArray) p111_14_5 hE wn_none rfl Try.underlying22 tS5 rfl rfl (own_told O_q59) (by omega) B_g10 (by have := xQ_len r0 k d; show 2 + _ ≤ 19; omega) (by rcases hr0 with ⟨h, _⟩ | ⟨h, _⟩ <;> subst h <;> rfl) ?_)
         clear hE a; intro w63 B_g10' hk a hE
         replace B_g := kp_blk B_g hk n_g_g10
         replace B_g1 := kp_blk B_g1 hk n_g1_g10
         replace B_g4 := kp_blk B_g4 hk n_g4_g10
         replace B_g7 := kp_blk B_g7 hk n_g7_g10
         replace O_o := own_keep O_o hk (fun k hk2 h2 => Nb_o_g10 (by rw [show k = g10 from h2] at hk2; exact hk2))
         replace O_q59 := own_keep O_q59 hk (fun k hk2 h2 => Nb_q59_g10 (by rw [show k = g10 from h2] at hk2; exact hk2))
         replace K_0 := K_0.then_ hk (fun k h => by rw [show k = g10 from h]; exact Or.inr z_0_g10)
         replace B_g10 := B_g10'
         clear hk
         refine ⟨⟨B_g1, B_g4, B_g7, trivial⟩, ?_⟩
         refine d_end (by kernel_rfl) ?_
         refine x_norm ?_
         have eA : aQ r0 k d = fQ r0 k d (i + 1) := by unfold aQ fQ; split; rw [hi8]; exact (adrI_now d hAD9).symm; rfl
         rw [eA] at B_g10
         rw [hpo9] at B_g
         exact jn15 _ _ ⟨En.sub hE ⟨rfl, rfl, (by rw [hb57]; rfl), rfl, rfl, rfl, rfl, rfl, rfl, rfl, rfl, rfl, rfl, rfl, rfl, rfl, trivial⟩, B_g, B_g1, B_g4, B_g7, B_g10, O_o, Nb_o_g, Nb_o_g1, Nb_o_g4, Nb_o_g7, Nb_o_g10, Z_0_o, K_0⟩
        ·
         rw [hb57] at hE
         refine c_cond (t := false) hE rfl ?_
         refine wp_skip (x_norm ?_)
         have hno9 : ¬ (addrF k = true ∧ i = atF k) := fun h => by rw [h.1] at hb57; cases hb57
         have eA : fQ r0 k d i = fQ r0 k d (i + 1) := by unfold fQ; split; exact (adrI_same d hno9).symm; rfl
         rw [if_neg hno9, Nat.add_zero] at hpo9
         rw [eA] at B_g10
         rw [hpo9] at B_g
         exact jn15 _ _ ⟨En.sub hE ⟨rfl, rfl, (by rw [hb57]; rfl), rfl, rfl, rfl, rfl, rfl, rfl, rfl, rfl, rfl, rfl, rfl, rfl, rfl, trivial⟩, B_g, B_g1, B_g4, B_g7, B_g10, O_o, Nb_o_g, Nb_o_g1, Nb_o_g4, Nb_o_g7, Nb_o_g10, Z_0_o, K_0⟩
       ·
        refine p_cons (s_still (v := Value.bool false) p111_13_7 hE wn_none rfl (st_eql rfl rfl (decide_eq_false hc56)) ?_); clear hE a; intro a hE
        refine q0 p111_13_8 hE (st_move rfl) ?_; clear hE a; intro a hE
        refine p_cons (s_skip p111_13_9 hE (wn_some g111_13_8 rfl rfl) rfl ?_); clear hE a; intro a hE
        refine p_cons (s_skip p111_13_10 hE (wn_some g111_13_8 rfl rfl) rfl ?_); clear hE a; intro a hE
        refine q0 p111_13_11 hE (st_pick rfl rfl) ?_; clear hE a; intro a hE
        refine p_nil (x_norm ?_)
        refine c_cond (t := false) hE rfl ?_
        refine wp_skip (x_norm ?_)
        have hno9 : ¬ (addrF k = true ∧ i = atF k) := fun h => absurd h.2 (by omega)
        have eA : fQ r0 k d i = fQ r0 k d (i + 1) := by unfold fQ; split; exact (adrI_same d hno9).symm; rfl
        rw [if_neg hno9, Nat.add_zero] at hpo9
        rw [eA] at B_g10
        rw [hpo9] at B_g
        exact jn15 _ _ ⟨En.sub hE ⟨rfl, rfl, rfl, rfl, rfl, rfl, rfl, rfl, rfl, rfl, rfl, rfl, rfl, rfl, rfl, rfl, trivial⟩, B_g, B_g1, B_g4, B_g7, B_g10, O_o, Nb_o_g, Nb_o_g1, Nb_o_g4, Nb_o_g7, Nb_o_g10, Z_0_o, K_0⟩
     ·
      refine p_cons (s_still (v := Value.bool false) p111_11_0 hE wn_none rfl (st_lss rfl rfl (decide_eq_false hc29)) ?_); clear hE a; intro a hE
      refine p_nil (x_norm (wp_seq ?_))
      refine c_cond (t := false) hE rfl ?_
      refine wp_exit (x_exit (x_exit ?_))
      obtain rfl : i = (sizesF k).length := by omega
      refine x_in (x_norm (wp_seq (c_reg R111_17_l ?_)))
      refine q0 p111_17_0 hE (st_fieldAddr Try.underlying116 rfl tS4 rfl rfl) ?_; clear hE a; intro a hE
      refine q0 p111_17_1 hE (st_load1 tA4 rfl ((blk_cell B_g4 3).trans rfl)) ?_; clear hE a; intro a hE
      refine q0 p111_17_2 hE (st_move rfl) ?_; clear hE a; intro a hE
      rcases Bool.eq_false_or_eq_true (addrF k) with hb64 | hb64
      ·
       rw [hb64] at hE
       refine p_cons (s_still p111_17_3 hE (wn_some g111_17_2 rfl rfl) rfl (st_fieldAddr Try.underlying116 rfl tS3 rfl rfl) ?_); clear hE a; intro a hE
       refine p_cons (s_still p111_17_4 hE (wn_some g111_17_2 rfl rfl) rfl (st_load1 tA3 rfl ((blk_cell B_g4 2).trans rfl)) ?_); clear hE a; intro a hE
       rcases Decidable.em ((behindF k) = 0) with hc65 | hc65
       ·
        refine p_cons (s_still (v := Value.bool true) p111_17_5 hE (wn_some g111_17_2 rfl rfl) rfl (st_eql rfl rfl (decide_eq_true hc65)) ?_); clear hE a; intro a hE
        refine q0 p111_17_6 hE (st_pick rfl rfl) ?_; clear hE a; intro a hE
        refine p_nil (x_norm ?_)
        refine c_cond (t := true) hE rfl ?_
        have hAD9 : addrF k = true := hb64
        have hbh9 : behindF k = 0 := hc65
        have hpa9 : posO k (sizesF k).length = aposF k := by rw [← pos_at]; congr 1; unfold atF; omega
        have hpe9 := posO_end k hk9 (.inl hbh9)
        rw [if_pos ⟨hAD9, hbh9⟩] at hpe9
        refine c_draw (S := fun W => W.heap[g1]? = some (.cells #[Value.pointer (some ⟨g, 0, none⟩)] 107 (0, 0)) ∧ W.heap[g4]? = some (.cells #[Value.string (wordF k), Value.slice A1 ((sizesF k).length) c1, Value.int .i64 (behindF k), Value.bool (addrF k), Value.int .i64 (lenF k), Value.int .i64 (zeroF k)] 116 (0, 0)) ∧ W.heap[g7]? = some (.cells (([Value.int .i64 0, Value.slice none 0 0] ++ b16 (fun _ => 0) ++ [Value.slice none 0 0])).toArray 50 (0, 0)) ∧ True) rfl rfl (listed := #[false, false, false, false, false, false]) rfl ?_
        intro w66 hh hk
        replace B_g := kp_blk B_g hk (fun h => h)
        replace B_g1 := kp_blk B_g1 hk (fun h => h)
        replace B_g4 := kp_blk B_g4 hk (fun h => h)
        replace B_g7 := kp_blk B_g7 hk (fun h => h)
        replace B_g10 := kp_blk B_g10 hk (fun h => h)
        replace O_o := own_keep O_o hk (fun _ _ h => h)
        replace K_0 := K_0.then_ hk (fun _ h => h.elim)
        clear hh hk
        refine Rv.dq (v := Value.pointer (some ⟨g10, 2, none⟩)) p111_18_0 ns111_18 hE wn_none ⟨B_g1, B_g4, B_g7, trivial⟩ (fun W hS => (st_fieldAddr Try.underlying50 rfl tS48 rfl rfl)) ?_; clear hE a; intro a hE
        refine Rv.dq (v := Value.slice (some ⟨g10, 2, none⟩) 16 16) p111_18_1 ns111_18 hE wn_none ⟨B_g1, B_g4, B_g7, trivial⟩ (fun W hS => (st_sliceA Try.underlying48 tS5 rfl)) ?_; clear hE a; intro a hE
        refine Rv.dq (v := Value.pointer (some ⟨g1, 0, none⟩)) p111_18_2 ns111_18 hE wn_none ⟨B_g1, B_g4, B_g7, trivial⟩ (fun W hS => (st_fieldAddr Try.underlying107 rfl tS104 rfl rfl)) ?_; clear hE a; intro a hE
        refine Rv.dq (v := Value.pointer (some ⟨g, 0, none⟩)) p111_18_3 ns111_18 hE wn_none ⟨B_g1, B_g4, B_g7, trivial⟩ (fun W hS => (st_load1 tA104 rfl ((blk_cell hS.1 0).trans rfl))) ?_; clear hE a; intro a hE
        have hnb_g := blk_lt B_g
        have hnb_g1 := blk_lt B_g1
        have hnb_g4 := blk_lt B_g4
        have hnb_g7 := blk_lt B_g7
        have hnb_g10 := blk_lt B_g10
        have hnz_0 := K_0.kept.1
        have hno_o := fun k (h : OB A_o k) => (own_ob O_o h).2
        refine d_one (by kernel_rfl) rfl (s_call (xs := [Operand.tmp 82, Operand.const (Value.int IntKind.i64 16)]) (args := [Value.pointer (some ⟨g, 0, none⟩), Value.int .i64 16]) p111_18_4 hE wn_none rfl rfl Try.func67 cl67 (Go.Proofs.Ytgpclehnomkbmaa.Cu.bytes_e g A c d (pQ r0 (posO k ((sizesF k).length))) 16 r0 16 rfl (pQ r0 (posO k (sizesF k).length + 16)) r0 (by rcases hr0 with ⟨h, hPL⟩ | ⟨h, hPL⟩; subst h; exact pN_ok (p := posO k (sizesF k).length) (by omega) rfl; subst h; exact pN_was) (by rcases hr0 with ⟨h, hPL⟩ | ⟨h, hPL⟩; subst h; exact rN_ok (p := posO k (sizesF k).length) (by omega); subst h; exact rN_was) _ (by rcases hr0 with ⟨h, hPL⟩ | ⟨h, hPL⟩; subst h; exact (show posO k (sizesF k).length ≤ d.length by omega); subst h; exact Nat.zero_le _) (by omega) (by omega) (by omega) (xQ r0 k d) (by rcases hr0 with ⟨h, hPL⟩ | ⟨h, hPL⟩; subst h; exact ((lN_ok (p := posO k (sizesF k).length) (by omega)).trans (by rw [hpa9]; exact addr_list hAD9 (by omega))); subst h; exact lN_was) (by omega) B_g (fun W hk => F_A W (K_0.then_ hk (fun k h => by rw [show k = g from h]; exact Or.inl rfl)))) ?_)
        rintro e w70 ⟨A68, c69, rfl, O_q67, _, B_g', hk⟩
        replace B_g1 := kp_blk B_g1 hk (Ne.symm n_g_g1)
        replace B_g4 := kp_blk B_g4 hk (Ne.symm n_g_g4)
        replace B_g7 := kp_blk B_g7 hk (Ne.symm n_g_g7)
        replace B_g10 := kp_blk B_g10 hk (Ne.symm n_g_g10)
        replace O_o := own_keep O_o hk (fun k hk2 h2 => Nb_o_g (by rw [show k = g from h2] at hk2; exact hk2))
        replace K_0 := K_0.then_ hk (fun k h => by rw [show k = g from h]; exact Or.inl rfl)
        replace B_g := B_g'
        have Nb_q67_g : ¬ OB A68 g := fun h => by have := (own_ob O_q67 h).1; have := hnb_g; omega
        have Nb_q67_g1 : ¬ OB A68 g1 := fun h => by have := (own_ob O_q67 h).1; have := hnb_g1; omega
        have Nb_q67_g4 : ¬ OB A68 g4 := fun h => by have := (own_ob O_q67 h).1; have := hnb_g4; omega
        have Nb_q67_g7 : ¬ OB A68 g7 := fun h => by have := (own_ob O_q67 h).1; have := hnb_g7; omega
        have Nb_q67_g10 : ¬ OB A68 g10 := fun h => by have := (own_ob O_q67 h).1; have := hnb_g10; omega
        have Z_0_q67 : ∀ k, OB A68 k → (fun k => k = g) k ∨ w.heap.size ≤ k := fun k h => .inr (by have := (own_ob O_q67 h).1; have := hnz_0; omega)
        have NN_q67_o : ∀ k, OB A68 k → ¬ OB A_o k := fun k h h2 => by have := (own_ob O_q67 h).1; have := hno_o k h2; omega
        have NN_o_q67 : ∀ k, OB A_o k → ¬ OB A68 k := fun k h h2 => NN_q67_o k h2 h
        replace O_q67 := own_lower O_q67 hnz_0
        refine ⟨_, rfl, ?_⟩; clear hE a; intro a hE
        refine ⟨⟨B_g1, B_g4, B_g7, trivial⟩, ?_⟩
        refine d_one (by kernel_rfl) rfl (s_copy (k := .u8) (off := 2) (ys := (xQ r0 k d)) (cs' := (([Value.int .i64 (k : Int), Value.slice A_o n_o c_o] ++ b16 (aQ r0 k d) ++ [Value.slice none 0 0])).toArray) p111_18_5 hE wn_none rfl Try.underlying22 tS5 rfl rfl (own_told O_q67) (by omega) B_g10 (by have := xQ_len r0 k d; show 2 + _ ≤ 19; omega) (by rcases hr0 with ⟨h, _⟩ | ⟨h, _⟩ <;> subst h <;> rfl) ?_)
        clear hE a; intro w71 B_g10' hk a hE
        replace B_g := kp_blk B_g hk n_g_g10
        replace B_g1 := kp_blk B_g1 hk n_g1_g10
        replace B_g4 := kp_blk B_g4 hk n_g4_g10
        replace B_g7 := kp_blk B_g7 hk n_g7_g10
        replace O_o := own_keep O_o hk (fun k hk2 h2 => Nb_o_g10 (by rw [show k = g10 from h2] at hk2; exact hk2))
        replace O_q67 := own_keep O_q67 hk (fun k hk2 h2 => Nb_q67_g10 (by rw [show k = g10 from h2] at hk2; exact hk2))
        replace K_0 := K_0.then_ hk (fun k h => by rw [show k = g10 from h]; exact Or.inr z_0_g10)
        replace B_g10 := B_g10'
        clear hk
        refine ⟨⟨B_g1, B_g4, B_g7, trivial⟩, ?_⟩
        refine d_end (by kernel_rfl) ?_
        refine x_norm (c_reg R111_19_l ?_)
        refine q0 p111_19_0 hE (st_loadN (off := 0) (k := 19) (vs := ([Value.int .i64 (k : Int), Value.slice A_o n_o c_o] ++ b16 (aQ r0 k d) ++ [Value.slice none 0 0])) tA50 tS50 rfl B_g10 rfl rfl) ?_; clear hE a; intro a hE
        refine p_cons (s_store (off := 0) (k := 19) (cs' := (([Value.int .i64 (k : Int), Value.slice A_o n_o c_o] ++ b16 (aQ r0 k d) ++ [Value.slice none 0 0])).toArray) p111_19_1 hE wn_none tS50 rfl rfl rfl rfl B_g7 (Nat.le_of_ble_eq_true rfl) rfl ?_)
        intro w72 B_g7' hk
        replace B_g := kp_blk B_g hk n_g_g7
        replace B_g1 := kp_blk B_g1 hk n_g1_g7
        replace B_g4 := kp_blk B_g4 hk n_g4_g7
        replace B_g10 := kp_blk B_g10 hk (Ne.symm n_g7_g10)
        replace O_o := own_keep O_o hk (fun k hk2 h2 => Nb_o_g7 (by rw [show k = g7 from h2] at hk2; exact hk2))
        replace O_q67 := own_keep O_q67 hk (fun k hk2 h2 => Nb_q67_g7 (by rw [show k = g7 from h2] at hk2; exact hk2))
        replace K_0 := K_0.then_ hk (fun k h => by rw [show k = g7 from h]; exact Or.inr z_0_g7)
        replace B_g7 := B_g7'
        clear hk
        refine p_nil (x_norm (wp_ret ?_))
        refine ret_one (v := Value.agg (([Value.int .i64 (k : Int), Value.slice A_o n_o c_o] ++ b16 (aQ r0 k d) ++ [Value.slice none 0 0])).toArray) rfl hE (.cellN (us := ([Value.int .i64 (k : Int), Value.slice A_o n_o c_o] ++ b16 (aQ r0 k d) ++ [Value.slice none 0 0])) tA50 tS50 rfl B_g7 rfl .nil) ?_
        subst hn_o
        have hcl9 : clF d.length (pQ r0 (posO k (sizesF k).length + 16)) r0 = if okD k d = true then 0 else 3 := by
         unfold okD clF
         rw [if_neg hK1, if_neg hK2]
         rcases hr0 with ⟨h, hPL⟩ | ⟨h, hPL⟩
         · subst h; rw [if_pos rfl, if_neg (by rw [show pQ 0 (posO k (sizesF k).length + 16) = (posO k (sizesF k).length + 16) from rfl]; omega), if_pos (decide_eq_true hPL)]
         · subst h; rw [if_neg (by decide), if_neg (by rw [decide_eq_false hPL]; decide)]
        have hpd9 : pQ r0 (posO k (sizesF k).length + 16) ≤ d.length := by
         rcases hr0 with ⟨h, hPL⟩ | ⟨h, hPL⟩
         · subst h; show (posO k (sizesF k).length + 16) ≤ _; omega
         · subst h; exact Nat.zero_le _
        have em : okD k d = true → ((k : Int), nQ r0 k d (sizesF k).length, l16 (aQ r0 k d), []) = mkO k d := by
         intro h
         unfold okD at h
         rw [if_neg hK1, if_neg hK2] at h
         have h := of_decide_eq_true h
         rcases hr0 with ⟨h0, hPL⟩ | ⟨h0, hPL⟩
         · subst h0; unfold mkO; rw [if_neg hK1, if_neg hK2]; rfl
         · exact absurd h hPL
        exact ⟨_, _, none, 0, ((k : Int), nQ r0 k d (sizesF k).length, l16 (aQ r0 k d), []), pQ r0 (posO k (sizesF k).length + 16), r0, rfl, (own_caps O_o).1, Nat.le_refl _, fun W' hk => own_told (own_keep O_o hk (fun k h h2 => by have := (own_ob O_o h).1; omega)), fun W' hk => Kd.C_nil _ _, B_g, hpd9, hcl9, em, K_0⟩
       ·
        refine p_cons (s_still (v := Value.bool false) p111_17_5 hE (wn_some g111_17_2 rfl rfl) rfl (st_eql rfl rfl (decide_eq_false hc65)) ?_); clear hE a; intro a hE
        refine q0 p111_17_6 hE (st_pick rfl rfl) ?_; clear hE a; intro a hE
        refine p_nil (x_norm ?_)
        refine c_cond (t := false) hE rfl ?_
        refine wp_skip (x_norm (c_reg R111_19_l ?_))
        refine q0 p111_19_0 hE (st_loadN (off := 0) (k := 19) (vs := ([Value.int .i64 (k : Int), Value.slice A_o n_o c_o] ++ b16 (fQ r0 k d ((sizesF k).length)) ++ [Value.slice none 0 0])) tA50 tS50 rfl B_g10 rfl rfl) ?_; clear hE a; intro a hE
        refine p_cons (s_store (off := 0) (k := 19) (cs' := (([Value.int .i64 (k : Int), Value.slice A_o n_o c_o] ++ b16 (fQ r0 k d ((sizesF k).length)) ++ [Value.slice none 0 0])).toArray) p111_19_1 hE wn_none tS50 rfl rfl rfl rfl B_g7 (Nat.le_of_ble_eq_true rfl) rfl ?_)
        intro w73 B_g7' hk
        replace B_g := kp_blk B_g hk n_g_g7
        replace B_g1 := kp_blk B_g1 hk n_g1_g7
        replace B_g4 := kp_blk B_g4 hk n_g4_g7
        replace B_g10 := kp_blk B_g10 hk (Ne.symm n_g7_g10)
        replace O_o := own_keep O_o hk (fun k hk2 h2 => Nb_o_g7 (by rw [show k = g7 from h2] at hk2; exact hk2))
        replace K_0 := K_0.then_ hk (fun k h => by rw [show k = g7 from h]; exact Or.inr z_0_g7)
        replace B_g7 := B_g7'
        clear hk
        refine p_nil (x_norm (wp_ret ?_))
        refine ret_one (v := Value.agg (([Value.int .i64 (k : Int), Value.slice A_o n_o c_o] ++ b16 (fQ r0 k d ((sizesF k).length)) ++ [Value.slice none 0 0])).toArray) rfl hE (.cellN (us := ([Value.int .i64 (k : Int), Value.slice A_o n_o c_o] ++ b16 (fQ r0 k d ((sizesF k).length)) ++ [Value.slice none 0 0])) tA50 tS50 rfl B_g7 rfl .nil) ?_
        have hbh9 : behindF k = 0 ∨ addrF k = true := Or.inr hb64
        have hpe9 := posO_end k hk9 hbh9
        rw [if_neg (fun h => hc65 h.2)] at hpe9
        have eA : l16 (adrI k d (sizesF k).length) = l16 (addrO k d) := by rw [adrI_late d hb64 (by unfold atF; omega)]
        subst hn_o
        have hcl9 : clF d.length (pQ r0 (posO k (sizesF k).length)) r0 = if okD k d = true then 0 else 3 := by
         unfold okD clF
         rw [if_neg hK1, if_neg hK2]
         rcases hr0 with ⟨h, hPL⟩ | ⟨h, hPL⟩
         · subst h; rw [if_pos rfl, if_neg (by rw [show pQ 0 (posO k (sizesF k).length) = (posO k (sizesF k).length) from rfl]; omega), if_pos (decide_eq_true hPL)]
         · subst h; rw [if_neg (by decide), if_neg (by rw [decide_eq_false hPL]; decide)]
        have hpd9 : pQ r0 (posO k (sizesF k).length) ≤ d.length := by
         rcases hr0 with ⟨h, hPL⟩ | ⟨h, hPL⟩
         · subst h; show (posO k (sizesF k).length) ≤ _; omega
         · subst h; exact Nat.zero_le _
        have em : okD k d = true → ((k : Int), nQ r0 k d (sizesF k).length, l16 (fQ r0 k d (sizesF k).length), []) = mkO k d := by
         intro h
         unfold okD at h
         rw [if_neg hK1, if_neg hK2] at h
         have h := of_decide_eq_true h
         rcases hr0 with ⟨h0, hPL⟩ | ⟨h0, hPL⟩
         · subst h0; unfold mkO; rw [if_neg hK1, if_neg hK2, ← eA]; rfl
         · exact absurd h hPL
        exact ⟨_, _, none, 0, ((k : Int), nQ r0 k d (sizesF k).length, l16 (fQ r0 k d (sizesF k).length), []), pQ r0 (posO k (sizesF k).length), r0, rfl, (own_caps O_o).1, Nat.le_refl _, fun W' hk => own_told (own_keep O_o hk (fun k h h2 => by have := (own_ob O_o h).1; omega)), fun W' hk => Kd.C_nil _ _, B_g, hpd9, hcl9, em, K_0⟩
      ·
       rw [hb64] at hE
       refine p_cons (s_skip p111_17_3 hE (wn_some g111_17_2 rfl rfl) rfl ?_); clear hE a; intro a hE
       refine p_cons (s_skip p111_17_4 hE (wn_some g111_17_2 rfl rfl) rfl ?_); clear hE a; intro a hE
       refine p_cons (s_skip p111_17_5 hE (wn_some g111_17_2 rfl rfl) rfl ?_); clear hE a; intro a hE
       refine q0 p111_17_6 hE (st_pick rfl rfl) ?_; clear hE a; intro a hE
       refine p_nil (x_norm ?_)
       refine c_cond (t := false) hE rfl ?_
       refine wp_skip (x_norm (c_reg R111_19_l ?_))
       refine q0 p111_19_0 hE (st_loadN (off := 0) (k := 19) (vs := ([Value.int .i64 (k : Int), Value.slice A_o n_o c_o] ++ b16 (fQ r0 k d ((sizesF k).length)) ++ [Value.slice none 0 0])) tA50 tS50 rfl B_g10 rfl rfl) ?_; clear hE a; intro a hE
       refine p_cons (s_store (off := 0) (k := 19) (cs' := (([Value.int .i64 (k : Int), Value.slice A_o n_o c_o] ++ b16 (fQ r0 k d ((sizesF k).length)) ++ [Value.slice none 0 0])).toArray) p111_19_1 hE wn_none tS50 rfl rfl rfl rfl B_g7 (Nat.le_of_ble_eq_true rfl) rfl ?_)
       intro w74 B_g7' hk
       replace B_g := kp_blk B_g hk n_g_g7
       replace B_g1 := kp_blk B_g1 hk n_g1_g7
       replace B_g4 := kp_blk B_g4 hk n_g4_g7
       replace B_g10 := kp_blk B_g10 hk (Ne.symm n_g7_g10)
       replace O_o := own_keep O_o hk (fun k hk2 h2 => Nb_o_g7 (by rw [show k = g7 from h2] at hk2; exact hk2))
       replace K_0 := K_0.then_ hk (fun k h => by rw [show k = g7 from h]; exact Or.inr z_0_g7)
       replace B_g7 := B_g7'
       clear hk
       refine p_nil (x_norm (wp_ret ?_))
       refine ret_one (v := Value.agg (([Value.int .i64 (k : Int), Value.slice A_o n_o c_o] ++ b16 (fQ r0 k d ((sizesF k).length)) ++ [Value.slice none 0 0])).toArray) rfl hE (.cellN (us := ([Value.int .i64 (k : Int), Value.slice A_o n_o c_o] ++ b16 (fQ r0 k d ((sizesF k).length)) ++ [Value.slice none 0 0])) tA50 tS50 rfl B_g7 rfl .nil) ?_
       have hbh9 : behindF k = 0 ∨ addrF k = true := Or.inl (behind_no hk9 hb64)
       have hpe9 := posO_end k hk9 hbh9
       rw [if_neg (fun h => by rw [h.1] at hb64; cases hb64)] at hpe9
       have eA : l16 (adrI k d (sizesF k).length) = l16 (addrO k d) := by rw [adrI_none d (by rw [hb64]; decide)]
       subst hn_o
       have hcl9 : clF d.length (pQ r0 (posO k (sizesF k).length)) r0 = if okD k d = true then 0 else 3 := by
        unfold okD clF
        rw [if_neg hK1, if_neg hK2]
        rcases hr0 with ⟨h, hPL⟩ | ⟨h, hPL⟩
        · subst h; rw [if_pos rfl, if_neg (by rw [show pQ 0 (posO k (sizesF k).length) = (posO k (sizesF k).length) from rfl]; omega), if_pos (decide_eq_true hPL)]
        · subst h; rw [if_neg (by decide), if_neg (by rw [decide_eq_false hPL]; decide)]
       have hpd9 : pQ r0 (posO k (sizesF k).length) ≤ d.length := by
        rcases hr0 with ⟨h, hPL⟩ | ⟨h, hPL⟩
        · subst h; show (posO k (sizesF k).length) ≤ _; omega
        · subst h; exact Nat.zero_le _
       have em : okD k d = true → ((k : Int), nQ r0 k d (sizesF k).length, l16 (fQ r0 k d (sizesF k).length), []) = mkO k d := by
        intro h
        unfold okD at h
        rw [if_neg hK1, if_neg hK2] at h
        have h := of_decide_eq_true h
        rcases hr0 with ⟨h0, hPL⟩ | ⟨h0, hPL⟩
        · subst h0; unfold mkO; rw [if_neg hK1, if_neg hK2, ← eA]; rfl
        · exact absurd h hPL
       exact ⟨_, _, none, 0, ((k : Int), nQ r0 k d (sizesF k).length, l16 (fQ r0 k d (sizesF k).length), []), pQ r0 (posO k (sizesF k).length), r0, rfl, (own_caps O_o).1, Nat.le_refl _, fun W' hk => own_told (own_keep O_o hk (fun k h h2 => by have := (own_ob O_o h).1; omega)), fun W' hk => Kd.C_nil _ _, B_g, hpd9, hcl9, em, K_0⟩
   ·
    refine wp_seq ?_
    rcases Decidable.em (d.length = plainF k) with hPL | hPL
    ·
     refine c_drawS (S := fun W => W.heap[g]? = some (.cells #[Value.slice A d.length c, Value.int .i64 0, Value.int .i64 0] 188 (0, 0)) ∧ W.heap[g1]? = some (.cells #[Value.pointer (some ⟨g, 0, none⟩)] 107 (0, 0)) ∧ W.heap[g4]? = some (.cells #[Value.string (wordF k), Value.slice A1 ((sizesF k).length) c1, Value.int .i64 (behindF k), Value.bool (addrF k), Value.int .i64 (lenF k), Value.int .i64 (zeroF k)] 116 (0, 0)) ∧ W.heap[g7]? = some (.cells (([Value.int .i64 0, Value.slice none 0 0] ++ b16 (fun _ => 0) ++ [Value.slice none 0 0])).toArray 50 (0, 0)) ∧ W.heap[g10]? = some (.cells (([Value.int .i64 (k : Int), Value.slice none 0 0] ++ b16 (fun _ => 0) ++ [Value.slice none 0 0])).toArray 50 (0, 0)) ∧ True) rfl rfl (listed := #[false, false, false, false, false, false]) rfl ?_
     intro w75 hh hk
     replace B_g := kp_blk B_g hk (fun h => h)
     replace B_g1 := kp_blk B_g1 hk (fun h => h)
     replace B_g4 := kp_blk B_g4 hk (fun h => h)
     replace B_g7 := kp_blk B_g7 hk (fun h => h)
     replace B_g10 := kp_blk B_g10 hk (fun h => h)
     replace K_0 := K_0.then_ hk (fun _ h => h.elim)
     clear hh hk
     refine Rv.dq (v := Value.pointer (some ⟨g1, 0, none⟩)) p111_8_0 ns111_8 hE wn_none ⟨B_g, B_g1, B_g4, B_g7, B_g10, trivial⟩ (fun W hS => (st_fieldAddr Try.underlying107 rfl tS104 rfl rfl)) ?_; clear hE a; intro a hE
     refine Rv.dq (v := Value.pointer (some ⟨g, 0, none⟩)) p111_8_1 ns111_8 hE wn_none ⟨B_g, B_g1, B_g4, B_g7, B_g10, trivial⟩ (fun W hS => (st_load1 tA104 rfl ((blk_cell hS.2.1 0).trans rfl))) ?_; clear hE a; intro a hE
     refine Rv.dq (v := Value.agg #[Value.string (wordF k), Value.slice A1 ((sizesF k).length) c1, Value.int .i64 (behindF k), Value.bool (addrF k), Value.int .i64 (lenF k), Value.int .i64 (zeroF k)]) p111_8_3 ns111_8 hE wn_none ⟨B_g, B_g1, B_g4, B_g7, B_g10, trivial⟩ (fun W hS => (st_loadN (off := 0) (k := 6) (vs := [Value.string (wordF k), Value.slice A1 ((sizesF k).length) c1, Value.int .i64 (behindF k), Value.bool (addrF k), Value.int .i64 (lenF k), Value.int .i64 (zeroF k)]) tA116 tS116 rfl hS.2.2.1 rfl rfl)) ?_; clear hE a; intro a hE
     refine d_one (by kernel_rfl) rfl (s_call (xs := [Operand.tmp 28]) (args := [Value.pointer (some ⟨g, 0, none⟩)]) p111_8_2 hE wn_none rfl rfl Try.func51 cl51 (Go.Proofs.Ytgpclehnomkbmaa.Cu.left_c _ g A c 0 _ _ (by omega) (by omega) B_g) ?_)
     rintro e w76 ⟨rfl, hk⟩
     replace B_g := kp_blk B_g hk (fun h => h)
     replace B_g1 := kp_blk B_g1 hk (fun h => h)
     replace B_g4 := kp_blk B_g4 hk (fun h => h)
     replace B_g7 := kp_blk B_g7 hk (fun h => h)
     replace B_g10 := kp_blk B_g10 hk (fun h => h)
     replace K_0 := K_0.then_ hk (fun _ h => h.elim)
     refine ⟨_, rfl, ?_⟩; clear hE a; intro a hE
     refine ⟨⟨B_g, B_g1, B_g4, B_g7, B_g10, trivial⟩, ?_⟩
     refine d_one (by kernel_rfl) rfl (s_call (xs := [Operand.tmp 30]) (args := [Value.agg #[Value.string (wordF k), Value.slice A1 ((sizesF k).length) c1, Value.int .i64 (behindF k), Value.bool (addrF k), Value.int .i64 (lenF k), Value.int .i64 (zeroF k)]]) p111_8_4 hE wn_none rfl rfl Try.func148 cl148 (plain_c k hk9 A1 c1 _ (fun W' hk => F_1 _ (K_0.then_ hk (fun _ h => h.elim)))) ?_)
     rintro e w77 ⟨rfl, hk⟩
     replace B_g := kp_blk B_g hk (fun h => h)
     replace B_g1 := kp_blk B_g1 hk (fun h => h)
     replace B_g4 := kp_blk B_g4 hk (fun h => h)
     replace B_g7 := kp_blk B_g7 hk (fun h => h)
     replace B_g10 := kp_blk B_g10 hk (fun h => h)
     replace K_0 := K_0.then_ hk (fun _ h => h.elim)
     refine ⟨_, rfl, ?_⟩; clear hE a; intro a hE
     refine ⟨⟨B_g, B_g1, B_g4, B_g7, B_g10, trivial⟩, ?_⟩
     refine Rv.dq (v := Value.bool false) p111_8_5 ns111_8 hE wn_none ⟨B_g, B_g1, B_g4, B_g7, B_g10, trivial⟩ (fun W hS => (st_neq (b := false) rfl rfl (by rw [decide_eq_true (by omega)]; rfl))) ?_; clear hE a; intro a hE
     refine d_end (by kernel_rfl) ?_
     refine x_norm ?_
     refine c_cond (t := false) hE rfl ?_
     refine wp_skip (x_norm ?_)
     exact jn10 _ _ ⟨0, En.sub hE ⟨rfl, rfl, rfl, rfl, rfl, rfl, rfl, rfl, rfl, rfl, trivial⟩, (Or.inl ⟨rfl, hPL⟩), B_g, B_g1, B_g4, B_g7, B_g10, K_0⟩
    ·
     refine c_drawS (S := fun W => W.heap[g]? = some (.cells #[Value.slice A d.length c, Value.int .i64 0, Value.int .i64 0] 188 (0, 0)) ∧ W.heap[g1]? = some (.cells #[Value.pointer (some ⟨g, 0, none⟩)] 107 (0, 0)) ∧ W.heap[g4]? = some (.cells #[Value.string (wordF k), Value.slice A1 ((sizesF k).length) c1, Value.int .i64 (behindF k), Value.bool (addrF k), Value.int .i64 (lenF k), Value.int .i64 (zeroF k)] 116 (0, 0)) ∧ W.heap[g7]? = some (.cells (([Value.int .i64 0, Value.slice none 0 0] ++ b16 (fun _ => 0) ++ [Value.slice none 0 0])).toArray 50 (0, 0)) ∧ W.heap[g10]? = some (.cells (([Value.int .i64 (k : Int), Value.slice none 0 0] ++ b16 (fun _ => 0) ++ [Value.slice none 0 0])).toArray 50 (0, 0)) ∧ True) rfl rfl (listed := #[false, false, false, false, false, false]) rfl ?_
     intro w78 hh hk
     replace B_g := kp_blk B_g hk (fun h => h)
     replace B_g1 := kp_blk B_g1 hk (fun h => h)
     replace B_g4 := kp_blk B_g4 hk (fun h => h)
     replace B_g7 := kp_blk B_g7 hk (fun h => h)
     replace B_g10 := kp_blk B_g10 hk (fun h => h)
     replace K_0 := K_0.then_ hk (fun _ h => h.elim)
     clear hh hk
     refine Rv.dq (v := Value.pointer (some ⟨g1, 0, none⟩)) p111_8_0 ns111_8 hE wn_none ⟨B_g, B_g1, B_g4, B_g7, B_g10, trivial⟩ (fun W hS => (st_fieldAddr Try.underlying107 rfl tS104 rfl rfl)) ?_; clear hE a; intro a hE
     refine Rv.dq (v := Value.pointer (some ⟨g, 0, none⟩)) p111_8_1 ns111_8 hE wn_none ⟨B_g, B_g1, B_g4, B_g7, B_g10, trivial⟩ (fun W hS => (st_load1 tA104 rfl ((blk_cell hS.2.1 0).trans rfl))) ?_; clear hE a; intro a hE
     refine Rv.dq (v := Value.agg #[Value.string (wordF k), Value.slice A1 ((sizesF k).length) c1, Value.int .i64 (behindF k), Value.bool (addrF k), Value.int .i64 (lenF k), Value.int .i64 (zeroF k)]) p111_8_3 ns111_8 hE wn_none ⟨B_g, B_g1, B_g4, B_g7, B_g10, trivial⟩ (fun W hS => (st_loadN (off := 0) (k := 6) (vs := [Value.string (wordF k), Value.slice A1 ((sizesF k).length) c1, Value.int .i64 (behindF k), Value.bool (addrF k), Value.int .i64 (lenF k), Value.int .i64 (zeroF k)]) tA116 tS116 rfl hS.2.2.1 rfl rfl)) ?_; clear hE a; intro a hE
     refine d_one (by kernel_rfl) rfl (s_call (xs := [Operand.tmp 28]) (args := [Value.pointer (some ⟨g, 0, none⟩)]) p111_8_2 hE wn_none rfl rfl Try.func51 cl51 (Go.Proofs.Ytgpclehnomkbmaa.Cu.left_c _ g A c 0 _ _ (by omega) (by omega) B_g) ?_)
     rintro e w79 ⟨rfl, hk⟩
     replace B_g := kp_blk B_g hk (fun h => h)
     replace B_g1 := kp_blk B_g1 hk (fun h => h)
     replace B_g4 := kp_blk B_g4 hk (fun h => h)
     replace B_g7 := kp_blk B_g7 hk (fun h => h)
     replace B_g10 := kp_blk B_g10 hk (fun h => h)
     replace K_0 := K_0.then_ hk (fun _ h => h.elim)
     refine ⟨_, rfl, ?_⟩; clear hE a; intro a hE
     refine ⟨⟨B_g, B_g1, B_g4, B_g7, B_g10, trivial⟩, ?_⟩
     refine d_one (by kernel_rfl) rfl (s_call (xs := [Operand.tmp 30]) (args := [Value.agg #[Value.string (wordF k), Value.slice A1 ((sizesF k).length) c1, Value.int .i64 (behindF k), Value.bool (addrF k), Value.int .i64 (lenF k), Value.int .i64 (zeroF k)]]) p111_8_4 hE wn_none rfl rfl Try.func148 cl148 (plain_c k hk9 A1 c1 _ (fun W' hk => F_1 _ (K_0.then_ hk (fun _ h => h.elim)))) ?_)
     rintro e w80 ⟨rfl, hk⟩
     replace B_g := kp_blk B_g hk (fun h => h)
     replace B_g1 := kp_blk B_g1 hk (fun h => h)
     replace B_g4 := kp_blk B_g4 hk (fun h => h)
     replace B_g7 := kp_blk B_g7 hk (fun h => h)
     replace B_g10 := kp_blk B_g10 hk (fun h => h)
     replace K_0 := K_0.then_ hk (fun _ h => h.elim)
     refine ⟨_, rfl, ?_⟩; clear hE a; intro a hE
     refine ⟨⟨B_g, B_g1, B_g4, B_g7, B_g10, trivial⟩, ?_⟩
     refine Rv.dq (v := Value.bool true) p111_8_5 ns111_8 hE wn_none ⟨B_g, B_g1, B_g4, B_g7, B_g10, trivial⟩ (fun W hS => (st_neq (b := true) rfl rfl (by rw [decide_eq_false (by omega)]; rfl))) ?_; clear hE a; intro a hE
     refine d_end (by kernel_rfl) ?_
     refine x_norm ?_
     refine c_cond (t := true) hE rfl ?_
     refine c_regL R111_9_l ?_
     refine q0 p111_9_0 hE (st_fieldAddr Try.underlying107 rfl tS104 rfl rfl) ?_; clear hE a; intro a hE
     refine q0 p111_9_1 hE (st_load1 tA104 rfl ((blk_cell B_g1 0).trans rfl)) ?_; clear hE a; intro a hE
     refine p_cons (s_call (xs := [Operand.tmp 34, Operand.const (Value.int IntKind.i64 3)]) (args := [Value.pointer (some ⟨g, 0, none⟩), Value.int .i64 3]) p111_9_2 hE wn_none rfl rfl Try.func145 cl145 (Go.Proofs.Ytgpclehnomkbmaa.Cu.spoil_c _ 3 g A c 0 _ _ B_g) ?_)
     rintro e w81 ⟨rfl, B_g', hk⟩
     rw [if_pos rfl] at B_g'
     replace B_g1 := kp_blk B_g1 hk (Ne.symm n_g_g1)
     replace B_g4 := kp_blk B_g4 hk (Ne.symm n_g_g4)
     replace B_g7 := kp_blk B_g7 hk (Ne.symm n_g_g7)
     replace B_g10 := kp_blk B_g10 hk (Ne.symm n_g_g10)
     replace K_0 := K_0.then_ hk (fun k h => by rw [show k = g from h]; exact Or.inl rfl)
     replace B_g := B_g'
     refine ⟨_, rfl, ?_⟩; clear hE a; intro a hE
     refine p_nil (x_norm ?_)
     exact jn10 _ _ ⟨3, En.sub hE ⟨rfl, rfl, rfl, rfl, rfl, rfl, rfl, rfl, rfl, rfl, trivial⟩, (Or.inr ⟨rfl, hPL⟩), B_g, B_g1, B_g4, B_g7, B_g10, K_0⟩
end Go.Proofs.Ytgpclehnomkbmaa.Rd
