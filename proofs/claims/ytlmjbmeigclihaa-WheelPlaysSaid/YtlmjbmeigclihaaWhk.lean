/- Layer 10: known, WheelOnce. -/
import Derived.Test.YtlmjbmeigclihaaWhl
import Derived.Test.YtlmjbmeigclihaaKdOpen
set_option maxRecDepth 100000
set_option linter.unusedVariables false
set_option linter.unusedSimpArgs false
namespace Go.Proofs.Ytlmjbmeigclihaa.Wo
open Go.RowKit Go.Proofs.YtlmjbmeigclihaaW.PrintWords Go.Proofs.Ytlmjbmeigclihaa.Ds Go.Proofs.Ytlmjbmeigclihaa.Wp Go.Proofs.Ytlmjbmeigclihaa.Wh Go.Proofs.Ytlmjbmeigclihaa.KdOpen
open Go.Proofs.Ytlmjbmeigclihaa.Pk (Kp)
open Go.Proofs.Ytlmjbmeigclihaa.Mi (st_eqlP st_neqP x_normS x_retS x_exitS MapI getI putI delI)
abbrev dA : Kd (Int × Int × Int) := Kd.pair (Kd.int .i64) (Kd.pair (Kd.int .i64) (Kd.int .i64))
abbrev zA : Int × Int × Int := (0, 0, 0)
theorem act_open {w : World} {k x y : Int} {l : List Value} (h : Kd.K dA w (k, x, y) l) : l = [.int .i64 k, .int .i64 x, .int .i64 y] := by
  obtain ⟨c0, d0, rfl, h0, c1, d1, rfl, h1, h2⟩ := h
  subst h0; subst h1
  rw [show d1 = [Value.int .i64 y] from h2]
  rfl
theorem set_nil_ok (g : Nat) (now : Int) (x n : Int) (w : World) (hnow : 0 ≤ now ∧ now ≤ 2305843009213693952) (hc : codeW now x n = 0) (hg : w.heap[g]? = some (.cells #[.int .i64 now, .map none] 29 (0, 0))) : Calls Try.prog 8 #[.pointer (some ⟨g, 0, none⟩), .int .i64 x, .int .i64 n] w fun e w' => ∃ gm es ck, e = .returned (.int .i64 0) ∧ w.heap.size ≤ gm ∧ w'.heap[g]? = some (.cells #[.int .i64 now, .map (some gm)] 29 (0, 0)) ∧ w'.heap[gm]? = some (.map es ck) ∧ MapI (Value.int .i64) es ck (setW [] now x n) ∧ Kp w w' (fun k => k = g) := by
  refine (set_nil g now x n w hnow hg).mono ?_
  rintro e w' ⟨rfl, ⟨h, _⟩ | ⟨gm, es, ck, _, h1, h2, h3, h4, h5, h6⟩⟩
  · exact absurd hc h
  · exact ⟨gm, es, ck, by rw [hc], h1, h3, h4, by unfold setW; rw [if_pos hc]; exact h5, h6⟩
theorem set_nil_no (g : Nat) (now : Int) (x n : Int) (w : World) (hnow : 0 ≤ now ∧ now ≤ 2305843009213693952) (hc : ¬ codeW now x n = 0) (hg : w.heap[g]? = some (.cells #[.int .i64 now, .map none] 29 (0, 0))) : Calls Try.prog 8 #[.pointer (some ⟨g, 0, none⟩), .int .i64 x, .int .i64 n] w fun e w' => e = .returned (.int .i64 (codeW now x n)) ∧ w'.heap[g]? = some (.cells #[.int .i64 now, .map none] 29 (0, 0)) ∧ Kp w w' (fun k => k = g) := by
  refine (set_nil g now x n w hnow hg).mono ?_
  rintro e w' ⟨rfl, ⟨_, h1, h2⟩ | ⟨_, _, _, h, _⟩⟩
  · exact ⟨rfl, h1, h2⟩
  · exact absurd h hc
theorem set_map_ok (g gm ck : Nat) (es : Array MapEntry) (l : Wp.LW) (now : Int) (x n : Int) (w : World) (hnow : 0 ≤ now ∧ now ≤ 2305843009213693952) (hc : codeW now x n = 0) (hg : w.heap[g]? = some (.cells #[.int .i64 now, .map (some gm)] 29 (0, 0))) (hm : w.heap[gm]? = some (.map es ck)) (hF : MapI (Value.int .i64) es ck l) (hne : g ≠ gm) : Calls Try.prog 8 #[.pointer (some ⟨g, 0, none⟩), .int .i64 x, .int .i64 n] w fun e w' => ∃ es' ck', e = .returned (.int .i64 0) ∧ MapI (Value.int .i64) es' ck' (setW l now x n) ∧ w'.heap[gm]? = some (.map es' ck') ∧ Kp w w' (fun k => k = gm) := by
  have := set_map g gm ck es l now x n w hnow hg hm hF hne
  rw [hc] at this
  exact this
def FrontOk (l : LW) (i : Nat) : Prop := l.length ≤ i ∧ ∀ p ∈ l, 1 ≤ p.2 ∧ p.2 ≤ 1099511627776
theorem front_nil (i : Nat) : FrontOk [] i := ⟨Nat.zero_le _, fun p hp => by cases hp⟩
theorem putI_mem {l : LW} {x v : Int} {p : Int × Int} (h : p ∈ putI l x v) : p ∈ l ∨ p = (x, v) := by
  induction l with
  | nil => exact .inr (List.mem_singleton.1 h)
  | cons q l ih =>
    unfold putI at h
    split at h
    · rcases List.mem_cons.1 h with h | h
      · exact .inr h
      · exact .inl (List.mem_cons_of_mem _ h)
    · rcases List.mem_cons.1 h with h | h
      · exact .inl (by rw [h]; exact List.mem_cons_self ..)
      · exact (ih h).imp (List.mem_cons_of_mem _) id
theorem code_ok {x n : Int} (h : codeW 0 x n = 0) : 1 ≤ n ∧ n ≤ 1099511627776 := by
  unfold codeW at h
  split at h
  · rename_i h1; exact h1.2
  · cases h
theorem front_set {l : LW} {i : Nat} {x n : Int} (h : FrontOk l i) : FrontOk (setW l 0 x n) (i + 1) := by
  unfold setW
  split
  · rename_i hc
    have hb := code_ok hc
    refine ⟨?_, fun p hp => ?_⟩
    · have := Mi.putI_len l x (0 + n)
      have := h.1
      split at * <;> omega
    · rcases putI_mem hp with h1 | h1
      · exact h.2 p h1
      · rw [h1]; show 1 ≤ 0 + n ∧ 0 + n ≤ _; omega
  · exact ⟨Nat.le_succ_of_le h.1, h.2⟩
theorem R15_0_l : List.range (regOf Try.f15 0).size = [0] := by kernel_rfl
theorem R15_1_l : List.range (regOf Try.f15 1).size = [0, 1, 2, 3, 4] := by kernel_rfl
theorem R15_2_l : List.range (regOf Try.f15 2).size = [0] := by kernel_rfl
theorem R15_3_l : List.range (regOf Try.f15 3).size = [0] := by kernel_rfl
theorem R15_4_l : List.range (regOf Try.f15 4).size = [0, 1, 2, 3] := by kernel_rfl
theorem R15_6_l : List.range (regOf Try.f15 6).size = [0, 1, 2, 3, 4, 5, 6, 7, 8] := by kernel_rfl
theorem R15_7_l : List.range (regOf Try.f15 7).size = [0] := by kernel_rfl
theorem R15_5_l : List.range (regOf Try.f15 5).size = [0, 1, 2] := by kernel_rfl
theorem R15_8_l : List.range (regOf Try.f15 8).size = [0] := by kernel_rfl
theorem body15 : Try.f15.body = some (.seq (.region 0 (regOf Try.f15 0) false) (.seq (.seq (.region 1 (regOf Try.f15 1) false) (.cond (Operand.tmp 10) (.seq (.region 2 (regOf Try.f15 2) false) (.ret)) (.skip))) (.seq (.seq (.region 3 (regOf Try.f15 3) false) (.block 0 (.loop (.seq (.seq (.region 4 (regOf Try.f15 4) false) (.cond (Operand.tmp 14) (.skip) (.exit 0))) (.seq (.block 1 (.seq (.region 6 (regOf Try.f15 6) true) (.cond (Operand.tmp 25) (.seq (.region 7 (regOf Try.f15 7) false) (.ret)) (.skip)))) (.region 5 (regOf Try.f15 5) false)))))) (.seq (.region 8 (regOf Try.f15 8) false) (.ret))))) := by kernel_rfl
theorem p15_0_0 : pj (regOf Try.f15 0) 0 = some (some 4, .assign (.const (.bool false)), 4, none) := by kernel_rfl
theorem p15_1_0 : pj (regOf Try.f15 1) 0 = some (some 6, .move (.tmp 0), 35, none) := by kernel_rfl
theorem p15_1_1 : pj (regOf Try.f15 1) 1 = some (some 7, .call { callee := .builtin .len, args := #[.tmp 6], argTypes := #[35] }, 3, none) := by kernel_rfl
theorem p15_1_2 : pj (regOf Try.f15 1) 2 = some (some 8, .move (.tmp 1), 35, none) := by kernel_rfl
theorem p15_1_3 : pj (regOf Try.f15 1) 3 = some (some 9, .call { callee := .builtin .len, args := #[.tmp 8], argTypes := #[35] }, 3, none) := by kernel_rfl
theorem p15_1_4 : pj (regOf Try.f15 1) 4 = some (some 10, .binOp .neq 3 (.tmp 7) (.tmp 9) 3, 4, none) := by kernel_rfl
theorem p15_3_0 : pj (regOf Try.f15 3) 0 = some (some 5, .assign (.const (.int .i64 0)), 3, none) := by kernel_rfl
theorem p15_4_0 : pj (regOf Try.f15 4) 0 = some (some 11, .move (.tmp 5), 3, none) := by kernel_rfl
theorem p15_4_1 : pj (regOf Try.f15 4) 1 = some (some 12, .move (.tmp 0), 35, none) := by kernel_rfl
theorem p15_4_2 : pj (regOf Try.f15 4) 2 = some (some 13, .call { callee := .builtin .len, args := #[.tmp 12], argTypes := #[35] }, 3, none) := by kernel_rfl
theorem p15_4_3 : pj (regOf Try.f15 4) 3 = some (some 14, .binOp .lss 3 (.tmp 11) (.tmp 13) 3, 4, none) := by kernel_rfl
theorem ns15_6 : Region.noSelect (regOf Try.f15 6) = true := by kernel_rfl
theorem p15_6_0 : pj (regOf Try.f15 6) 0 = some (some 17, .move (.tmp 0), 35, none) := by kernel_rfl
theorem p15_6_1 : pj (regOf Try.f15 6) 1 = some (some 18, .move (.tmp 5), 3, none) := by kernel_rfl
theorem p15_6_2 : pj (regOf Try.f15 6) 2 = some (some 19, .indexAddr 35 (.tmp 17) (.tmp 18), 0, none) := by kernel_rfl
theorem tS3 : (Try.prog.info? 3).map (·.size) = some 1 := by kernel_rfl
theorem p15_6_3 : pj (regOf Try.f15 6) 3 = some (some 20, .load 3 (.tmp 19), 3, none) := by kernel_rfl
theorem tA3 : (Try.prog.underlying 3).map aggD = some false := by kernel_rfl
theorem p15_6_4 : pj (regOf Try.f15 6) 4 = some (some 21, .move (.tmp 1), 35, none) := by kernel_rfl
theorem p15_6_5 : pj (regOf Try.f15 6) 5 = some (some 22, .move (.tmp 5), 3, none) := by kernel_rfl
theorem p15_6_6 : pj (regOf Try.f15 6) 6 = some (some 23, .indexAddr 35 (.tmp 21) (.tmp 22), 0, none) := by kernel_rfl
theorem p15_6_7 : pj (regOf Try.f15 6) 7 = some (some 24, .load 3 (.tmp 23), 3, none) := by kernel_rfl
theorem p15_6_8 : pj (regOf Try.f15 6) 8 = some (some 25, .binOp .neq 3 (.tmp 20) (.tmp 24) 3, 4, none) := by kernel_rfl
theorem p15_5_0 : pj (regOf Try.f15 5) 0 = some (some 15, .move (.tmp 5), 3, none) := by kernel_rfl
theorem p15_5_1 : pj (regOf Try.f15 5) 1 = some (some 16, .binOp .add 3 (.tmp 15) (.const (.int .i64 1)) 3, 3, none) := by kernel_rfl
theorem p15_5_2 : pj (regOf Try.f15 5) 2 = some (some 5, .assign (.tmp 16), 3, none) := by kernel_rfl
theorem p15_8_0 : pj (regOf Try.f15 8) 0 = some (some 4, .assign (.const (.bool true)), 4, none) := by kernel_rfl
set_option maxHeartbeats 4000000 in
theorem same_i (A B : Option Addr) (c cb : Nat) (l : List Int) (w : World) (hl : l.length ≤ 1000000) (hF : Kd.C (Kd.int .i64) w A l.length l) (hG : Kd.C (Kd.int .i64) w B l.length l) : Calls Try.prog 15 #[.slice A l.length c, .slice B l.length cb] w fun e w' => e = .returned (.bool true) ∧ Kp w w' (fun _ => False) := by
  have K_0 := Kp.refl w (fun _ => False)
  refine enter (args := [Value.slice A l.length c, Value.slice B l.length cb]) (n := 26) Try.func15 body15 rfl rfl rfl ?_
  intro a hE
  refine c_reg R15_0_l ?_
  refine q0 p15_0_0 hE (st_assign rfl) ?_
  clear hE a; intro a hE
  refine p_nil ?_
  refine x_norm ?_
  refine wp_seq ?_
  refine c_reg R15_1_l ?_
  refine q0 p15_1_0 hE (st_move rfl) ?_
  clear hE a; intro a hE
  refine q0 p15_1_1 hE (st_len Try.underlying35 rfl) ?_
  clear hE a; intro a hE
  refine q0 p15_1_2 hE (st_move rfl) ?_
  clear hE a; intro a hE
  refine q0 p15_1_3 hE (st_len Try.underlying35 rfl) ?_
  clear hE a; intro a hE
  refine q0 p15_1_4 hE (st_neq (b := false) rfl rfl (by simp)) ?_
  clear hE a; intro a hE
  refine p_nil ?_
  refine x_norm ?_
  refine c_cond (t := false) hE rfl ?_
  refine wp_skip ?_
  refine x_norm ?_
  refine wp_seq ?_
  refine c_reg R15_3_l ?_
  refine q0 p15_3_0 hE (st_assign rfl) ?_
  clear hE a; intro a hE
  refine p_nil ?_
  refine x_norm ?_
  refine wp_block ?_
  refine c_loop (α := Nat) (fun j a W => En 26 a [(0, Value.slice A l.length c), (1, Value.slice B l.length cb), (10, Value.bool false), (5, Value.int .i64 (j : Int))] ∧ j ≤ l.length ∧ Kp w W (fun _ => False)) (fun j => l.length - j) (0) ?_ ?_
  ·
    exact ⟨En.sub hE ⟨rfl, rfl, rfl, rfl, trivial⟩, Nat.zero_le _, K_0⟩
  ·
    clear hE a
    rintro j a w1 ⟨hE, hj9, K_0⟩
    refine wp_seq ?_
    rcases Decidable.em ((j : Int) < (l.length : Int)) with hK1 | hK1
    ·
      refine c_reg R15_4_l ?_
      refine q0 p15_4_0 hE (st_move rfl) ?_
      clear hE a; intro a hE
      refine q0 p15_4_1 hE (st_move rfl) ?_
      clear hE a; intro a hE
      refine q0 p15_4_2 hE (st_len Try.underlying35 rfl) ?_
      clear hE a; intro a hE
      refine q0 p15_4_3 hE (st_lss (b := true) rfl rfl (decide_eq_true hK1)) ?_
      clear hE a; intro a hE
      refine p_nil ?_
      refine x_norm ?_
      refine c_cond (t := true) hE rfl ?_
      refine wp_skip ?_
      refine x_norm ?_
      refine wp_seq ?_
      refine wp_block ?_
      refine c_drawS (S := fun W => Kd.C (Kd.int .i64) W A l.length l ∧ Kd.C (Kd.int .i64) W B l.length l ∧ True) rfl rfl (listed := #[false, false, false, false, false, false, false, false, false]) rfl ?_
      intro w2 hh hk
      replace K_0 := K_0.then_ hk (fun _ h => h.elim)
      clear hh hk
      refine d_take (v := Value.slice A l.length c) p15_6_0 ns15_6 (by kernel_rfl) (by kernel_rfl) (fun _ _ _ h => h) hE wn_none rfl ⟨(C_to hF K_0), (C_to hG K_0), trivial⟩ (fun W hS => (st_move rfl)) rfl ?_
      clear hE a; intro a hE
      refine d_take (v := Value.int .i64 (j : Int)) p15_6_1 ns15_6 (by kernel_rfl) (by kernel_rfl) (fun _ _ _ h => h) hE wn_none rfl ⟨(C_to hF K_0), (C_to hG K_0), trivial⟩ (fun W hS => (st_move rfl)) rfl ?_
      clear hE a; intro a hE
      refine d_take (v := Value.pointer (some (ea A j))) p15_6_2 ns15_6 (by kernel_rfl) (by kernel_rfl) (fun _ _ _ h => h) hE wn_none rfl ⟨(C_to hF K_0), (C_to hG K_0), trivial⟩ (fun W hS => (st_indexAddrS (i := j) Try.underlying35 tS3 (C_at (C_to hF K_0) (show j < _ by omega)).1 rfl rfl (by omega))) rfl ?_
      clear hE a; intro a hE
      refine d_take (v := Value.int .i64 (rd l (j : Int))) p15_6_3 ns15_6 (by kernel_rfl) (by kernel_rfl) (fun _ _ _ h => h) hE wn_none rfl ⟨(C_to hF K_0), (C_to hG K_0), trivial⟩ (fun W hS => (st_loadC (i := j) tA3 (hS.1) (by omega) rfl)) rfl ?_
      clear hE a; intro a hE
      refine d_take (v := Value.slice B l.length cb) p15_6_4 ns15_6 (by kernel_rfl) (by kernel_rfl) (fun _ _ _ h => h) hE wn_none rfl ⟨(C_to hF K_0), (C_to hG K_0), trivial⟩ (fun W hS => (st_move rfl)) rfl ?_
      clear hE a; intro a hE
      refine d_take (v := Value.int .i64 (j : Int)) p15_6_5 ns15_6 (by kernel_rfl) (by kernel_rfl) (fun _ _ _ h => h) hE wn_none rfl ⟨(C_to hF K_0), (C_to hG K_0), trivial⟩ (fun W hS => (st_move rfl)) rfl ?_
      clear hE a; intro a hE
      refine d_take (v := Value.pointer (some (ea B j))) p15_6_6 ns15_6 (by kernel_rfl) (by kernel_rfl) (fun _ _ _ h => h) hE wn_none rfl ⟨(C_to hF K_0), (C_to hG K_0), trivial⟩ (fun W hS => (st_indexAddrS (i := j) Try.underlying35 tS3 (C_at (C_to hG K_0) (show j < _ by omega)).1 rfl rfl (by omega))) rfl ?_
      clear hE a; intro a hE
      refine d_take (v := Value.int .i64 (rd l (j : Int))) p15_6_7 ns15_6 (by kernel_rfl) (by kernel_rfl) (fun _ _ _ h => h) hE wn_none rfl ⟨(C_to hF K_0), (C_to hG K_0), trivial⟩ (fun W hS => (st_loadC (i := j) tA3 (hS.2.1) (by omega) rfl)) rfl ?_
      clear hE a; intro a hE
      refine d_take (v := Value.bool false) p15_6_8 ns15_6 (by kernel_rfl) (by kernel_rfl) (fun _ _ _ h => h) hE wn_none rfl ⟨(C_to hF K_0), (C_to hG K_0), trivial⟩ (fun W hS => (st_neq (b := false) rfl rfl (by simp))) rfl ?_
      clear hE a; intro a hE
      refine d_end (by kernel_rfl) ?_
      refine x_norm ?_
      refine c_cond (t := false) hE rfl ?_
      refine wp_skip ?_
      refine x_normB ?_
      refine x_norm ?_
      refine c_regL R15_5_l ?_
      refine q0 p15_5_0 hE (st_move rfl) ?_
      clear hE a; intro a hE
      refine q0 p15_5_1 hE (st_add (z := (j : Int) + 1) rfl rfl (wr_i64 _ (by omega) (by omega))) ?_
      clear hE a; intro a hE
      refine q0 p15_5_2 hE (st_assign rfl) ?_
      clear hE a; intro a hE
      refine p_nil ?_
      refine x_norm ?_
      exact ⟨j + 1, by omega, En.sub hE ⟨rfl, rfl, rfl, rfl, trivial⟩, by omega, K_0⟩
    ·
      refine c_reg R15_4_l ?_
      refine q0 p15_4_0 hE (st_move rfl) ?_
      clear hE a; intro a hE
      refine q0 p15_4_1 hE (st_move rfl) ?_
      clear hE a; intro a hE
      refine q0 p15_4_2 hE (st_len Try.underlying35 rfl) ?_
      clear hE a; intro a hE
      refine q0 p15_4_3 hE (st_lss (b := false) rfl rfl (decide_eq_false hK1)) ?_
      clear hE a; intro a hE
      refine p_nil ?_
      refine x_norm ?_
      refine c_cond (t := false) hE rfl ?_
      refine wp_exit ?_
      refine x_exit ?_
      refine x_exit ?_
      refine x_in ?_
      refine x_norm ?_
      refine c_reg R15_8_l ?_
      refine q0 p15_8_0 hE (st_assign rfl) ?_
      clear hE a; intro a hE
      refine p_nil ?_
      refine x_norm ?_
      refine wp_ret ?_
      refine ret_one (v := Value.bool true) rfl hE (.tmp rfl .nil) ?_
      exact ⟨rfl, K_0⟩
theorem kL : setW (setW (setW [] 0 3 5) 0 1 5) 0 2 4 = [(3, 5), (1, 5), (2, 4)] := by decide +kernel
theorem kF : fireO (0 + 5) [(3, 5), (1, 5), (2, 4)] = [2, 1, 3] := by decide +kernel
theorem R11_0_l : List.range (regOf Try.f11 0).size = [0] := by kernel_rfl
theorem R11_1_l : List.range (regOf Try.f11 1).size = [0] := by kernel_rfl
theorem R11_2_l : List.range (regOf Try.f11 2).size = [0, 1, 2, 3, 4, 5] := by kernel_rfl
theorem R11_3_l : List.range (regOf Try.f11 3).size = [0, 1, 2, 3, 4, 5] := by kernel_rfl
theorem R11_4_l : List.range (regOf Try.f11 4).size = [0, 1, 2, 3, 4, 5, 6, 7, 8, 9, 10, 11, 12, 13, 14, 15, 16, 17, 18, 19, 20, 21, 22, 23] := by kernel_rfl
theorem body11 : Try.f11.body = some (.seq (.region 0 (regOf Try.f11 0) false) (.seq (.region 1 (regOf Try.f11 1) false) (.seq (.region 2 (regOf Try.f11 2) false) (.seq (.region 3 (regOf Try.f11 3) false) (.seq (.region 4 (regOf Try.f11 4) false) (.ret)))))) := by kernel_rfl
theorem p11_0_0 : pj (regOf Try.f11 0) 0 = some (some 0, .assign (.const (.bool false)), 4, none) := by kernel_rfl
theorem p11_1_0 : pj (regOf Try.f11 1) 0 = some (some 1, .alloc 29, 0, none) := by kernel_rfl
theorem tZ29 : (Try.prog.info? 29).bind (·.zero) = some (Value.agg #[Value.int .i64 0, Value.map none]) := by kernel_rfl
theorem p11_2_0 : pj (regOf Try.f11 2) 0 = some (some 7, .call { callee := .value (.func 8), args := #[.tmp 1, .const (.int .i64 3), .const (.int .i64 5)], argTypes := #[29, 3, 3] }, 30, none) := by kernel_rfl
theorem cl8 : callable Try.f8 = true := by kernel_rfl
theorem p11_2_1 : pj (regOf Try.f11 2) 1 = some (some 8, .call { callee := .value (.func 8), args := #[.tmp 1, .const (.int .i64 1), .const (.int .i64 5)], argTypes := #[29, 3, 3] }, 30, none) := by kernel_rfl
theorem p11_2_2 : pj (regOf Try.f11 2) 2 = some (some 9, .call { callee := .value (.func 8), args := #[.tmp 1, .const (.int .i64 2), .const (.int .i64 4)], argTypes := #[29, 3, 3] }, 30, none) := by kernel_rfl
theorem p11_2_3 : pj (regOf Try.f11 2) 3 = some (some 2, .assign (.tmp 7), 30, none) := by kernel_rfl
theorem p11_2_4 : pj (regOf Try.f11 2) 4 = some (some 3, .assign (.tmp 8), 30, none) := by kernel_rfl
theorem p11_2_5 : pj (regOf Try.f11 2) 5 = some (some 4, .assign (.tmp 9), 30, none) := by kernel_rfl
theorem p11_3_0 : pj (regOf Try.f11 3) 0 = some (some 11, .call { callee := .value (.func 13), args := #[.tmp 1, .const (.int .i64 5)], argTypes := #[29, 3] }, 40, none) := by kernel_rfl
theorem cl13 : callable Try.f13 = true := by kernel_rfl
theorem p11_3_1 : pj (regOf Try.f11 3) 1 = some (some 10, .move (.tmp 11), 40, none) := by kernel_rfl
theorem p11_3_2 : pj (regOf Try.f11 3) 2 = some (some 12, .extract (.tmp 10) 0, 35, none) := by kernel_rfl
theorem p11_3_3 : pj (regOf Try.f11 3) 3 = some (some 13, .extract (.tmp 10) 1, 30, none) := by kernel_rfl
theorem p11_3_4 : pj (regOf Try.f11 3) 4 = some (some 5, .assign (.tmp 12), 35, none) := by kernel_rfl
theorem p11_3_5 : pj (regOf Try.f11 3) 5 = some (some 6, .assign (.tmp 13), 30, none) := by kernel_rfl
theorem p11_4_0 : pj (regOf Try.f11 4) 0 = some (some 14, .move (.tmp 2), 30, none) := by kernel_rfl
theorem p11_4_1 : pj (regOf Try.f11 4) 1 = some (some 15, .binOp .eql 30 (.tmp 14) (.const (.int .i64 0)) 30, 4, none) := by kernel_rfl
theorem p11_4_2 : pj (regOf Try.f11 4) 2 = some (some 16, .move (.tmp 15), 4, none) := by kernel_rfl
theorem p11_4_3 : pj (regOf Try.f11 4) 3 = some (some 17, .move (.tmp 3), 30, some (2, true)) := by kernel_rfl
theorem g11_4_2 : dstOf (regOf Try.f11 4) 2 = some 16 := by kernel_rfl
theorem p11_4_4 : pj (regOf Try.f11 4) 4 = some (some 18, .binOp .eql 30 (.tmp 17) (.const (.int .i64 0)) 30, 4, some (2, true)) := by kernel_rfl
theorem p11_4_5 : pj (regOf Try.f11 4) 5 = some (some 19, .pick (.tmp 16) (.tmp 18) (.const (.bool false)), 4, none) := by kernel_rfl
theorem p11_4_6 : pj (regOf Try.f11 4) 6 = some (some 20, .move (.tmp 19), 4, none) := by kernel_rfl
theorem p11_4_7 : pj (regOf Try.f11 4) 7 = some (some 21, .move (.tmp 4), 30, some (6, true)) := by kernel_rfl
theorem g11_4_6 : dstOf (regOf Try.f11 4) 6 = some 20 := by kernel_rfl
theorem p11_4_8 : pj (regOf Try.f11 4) 8 = some (some 22, .binOp .eql 30 (.tmp 21) (.const (.int .i64 0)) 30, 4, some (6, true)) := by kernel_rfl
theorem p11_4_9 : pj (regOf Try.f11 4) 9 = some (some 23, .pick (.tmp 20) (.tmp 22) (.const (.bool false)), 4, none) := by kernel_rfl
theorem p11_4_10 : pj (regOf Try.f11 4) 10 = some (some 24, .move (.tmp 23), 4, none) := by kernel_rfl
theorem p11_4_11 : pj (regOf Try.f11 4) 11 = some (some 25, .move (.tmp 6), 30, some (10, true)) := by kernel_rfl
theorem g11_4_10 : dstOf (regOf Try.f11 4) 10 = some 24 := by kernel_rfl
theorem p11_4_12 : pj (regOf Try.f11 4) 12 = some (some 26, .binOp .eql 30 (.tmp 25) (.const (.int .i64 0)) 30, 4, some (10, true)) := by kernel_rfl
theorem p11_4_13 : pj (regOf Try.f11 4) 13 = some (some 27, .pick (.tmp 24) (.tmp 26) (.const (.bool false)), 4, none) := by kernel_rfl
theorem p11_4_14 : pj (regOf Try.f11 4) 14 = some (some 28, .move (.tmp 27), 4, none) := by kernel_rfl
theorem p11_4_15 : pj (regOf Try.f11 4) 15 = some (some 29, .move (.tmp 5), 35, some (14, true)) := by kernel_rfl
theorem g11_4_14 : dstOf (regOf Try.f11 4) 14 = some 28 := by kernel_rfl
theorem p11_4_16 : pj (regOf Try.f11 4) 16 = some (some 30, .buildSlice 35 3 #[(0, .const (.int .i64 2)), (1, .const (.int .i64 1)), (2, .const (.int .i64 3))], 35, some (14, true)) := by kernel_rfl
theorem p11_4_17 : pj (regOf Try.f11 4) 17 = some (some 31, .call { callee := .value (.func 15), args := #[.tmp 29, .tmp 30], argTypes := #[35, 35] }, 4, some (14, true)) := by kernel_rfl
theorem cl15 : callable Try.f15 = true := by kernel_rfl
theorem p11_4_18 : pj (regOf Try.f11 4) 18 = some (some 32, .pick (.tmp 28) (.tmp 31) (.const (.bool false)), 4, none) := by kernel_rfl
theorem p11_4_19 : pj (regOf Try.f11 4) 19 = some (some 33, .move (.tmp 32), 4, none) := by kernel_rfl
theorem p11_4_20 : pj (regOf Try.f11 4) 20 = some (some 34, .call { callee := .value (.func 17), args := #[.tmp 1], argTypes := #[29] }, 3, some (19, true)) := by kernel_rfl
theorem g11_4_19 : dstOf (regOf Try.f11 4) 19 = some 33 := by kernel_rfl
theorem cl17 : callable Try.f17 = true := by kernel_rfl
theorem p11_4_21 : pj (regOf Try.f11 4) 21 = some (some 35, .binOp .eql 3 (.tmp 34) (.const (.int .i64 5)) 3, 4, some (19, true)) := by kernel_rfl
theorem p11_4_22 : pj (regOf Try.f11 4) 22 = some (some 36, .pick (.tmp 33) (.tmp 35) (.const (.bool false)), 4, none) := by kernel_rfl
theorem p11_4_23 : pj (regOf Try.f11 4) 23 = some (some 0, .assign (.tmp 36), 4, none) := by kernel_rfl
set_option maxHeartbeats 4000000 in
theorem kn10 (w : World) : Calls Try.prog 11 #[] w fun e w' => e = .returned (.bool true) ∧ Kp w w' (fun _ => False) := by
  have K_0 := Kp.refl w (fun _ => False)
  refine enter (args := []) (n := 37) Try.func11 body11 rfl rfl rfl ?_
  intro a hE
  refine c_reg R11_0_l ?_
  refine q0 p11_0_0 hE (st_assign rfl) ?_
  clear hE a; intro a hE
  refine p_nil ?_
  refine x_norm ?_
  refine c_reg R11_1_l ?_
  refine p_cons (s_alloc p11_1_0 hE wn_none rfl tZ29 ?_)
  clear hE a; intro g1 w2 z3 B_g1 hk a hE
  replace B_g1 : w2.heap[g1]? = some (.cells #[Value.int .i64 0, Value.map none] 29 (0, 0)) := B_g1
  have z_0_g1 := Nat.le_trans K_0.kept.1 z3
  replace K_0 := K_0.then_ hk (fun _ h => h.elim)
  clear hk
  refine p_nil ?_
  refine x_norm ?_
  refine c_reg R11_2_l ?_
  refine p_cons (s_call (xs := [Operand.tmp 1, Operand.const (Value.int IntKind.i64 3), Operand.const (Value.int IntKind.i64 5)]) (args := [Value.pointer (some ⟨g1, 0, none⟩), Value.int .i64 3, Value.int .i64 5]) p11_2_0 hE wn_none rfl rfl Try.func8 cl8 (set_nil_ok g1 0 3 5 _ ⟨by decide, by decide⟩ (by decide +kernel) B_g1) ?_)
  rintro e w9 ⟨gm4, es5, ck6, rfl, z7, B_g1', B_gm4, MF8, hk⟩
  have n_g1_gm4 : g1 ≠ gm4 := ne_new B_g1 z7
  have z_0_gm4 := Nat.le_trans K_0.kept.1 z7
  replace K_0 := K_0.then_ hk (fun k h => by rw [show k = g1 from h]; exact Or.inr z_0_g1)
  replace B_g1 := B_g1'
  refine ⟨_, rfl, ?_⟩
  clear hE a; intro a hE
  refine p_cons (s_call (xs := [Operand.tmp 1, Operand.const (Value.int IntKind.i64 1), Operand.const (Value.int IntKind.i64 5)]) (args := [Value.pointer (some ⟨g1, 0, none⟩), Value.int .i64 1, Value.int .i64 5]) p11_2_1 hE wn_none rfl rfl Try.func8 cl8 (set_map_ok g1 gm4 ck6 es5 (setW [] 0 3 5) 0 1 5 _ ⟨by decide, by decide⟩ (by decide +kernel) B_g1 B_gm4 MF8 n_g1_gm4) ?_)
  rintro e w11 ⟨esm10, ckm10, rfl, MFm10, B_gm4', hk⟩
  replace B_g1 := kp_blk B_g1 hk n_g1_gm4
  replace K_0 := K_0.then_ hk (fun k h => by rw [show k = gm4 from h]; exact Or.inr z_0_gm4)
  replace B_gm4 := B_gm4'
  refine ⟨_, rfl, ?_⟩
  clear hE a; intro a hE
  refine p_cons (s_call (xs := [Operand.tmp 1, Operand.const (Value.int IntKind.i64 2), Operand.const (Value.int IntKind.i64 4)]) (args := [Value.pointer (some ⟨g1, 0, none⟩), Value.int .i64 2, Value.int .i64 4]) p11_2_2 hE wn_none rfl rfl Try.func8 cl8 (set_map_ok g1 gm4 ckm10 esm10 (setW (setW [] 0 3 5) 0 1 5) 0 2 4 _ ⟨by decide, by decide⟩ (by decide +kernel) B_g1 B_gm4 MFm10 n_g1_gm4) ?_)
  rintro e w13 ⟨esm12, ckm12, rfl, MFm12, B_gm4', hk⟩
  replace B_g1 := kp_blk B_g1 hk n_g1_gm4
  replace K_0 := K_0.then_ hk (fun k h => by rw [show k = gm4 from h]; exact Or.inr z_0_gm4)
  replace B_gm4 := B_gm4'
  refine ⟨_, rfl, ?_⟩
  clear hE a; intro a hE
  refine q0 p11_2_3 hE (st_assign rfl) ?_
  clear hE a; intro a hE
  refine q0 p11_2_4 hE (st_assign rfl) ?_
  clear hE a; intro a hE
  refine q0 p11_2_5 hE (st_assign rfl) ?_
  clear hE a; intro a hE
  refine p_nil ?_
  refine x_norm ?_
  refine c_reg R11_3_l ?_
  have MFk : MapI (Value.int .i64) esm12 ckm12 [(3, 5), (1, 5), (2, 4)] := by rw [← kL]; exact MFm12
  have hnb_g1 := blk_lt B_g1
  have hnb_gm4 := blk_lt B_gm4
  have hnz_0 := K_0.kept.1
  refine p_cons (s_call (xs := [Operand.tmp 1, Operand.const (Value.int IntKind.i64 5)]) (args := [Value.pointer (some ⟨g1, 0, none⟩), Value.int .i64 5]) p11_3_0 hE wn_none rfl rfl Try.func13 cl13 (run_any g1 gm4 ckm12 esm12 ([(3, 5), (1, 5), (2, 4)]) 0 5 5 _ (by decide) ⟨by decide, by decide⟩ ⟨by decide, by decide⟩ (by decide) B_g1 B_gm4 MFk n_g1_gm4) ?_)
  rintro e w20 ⟨A14, c15, es16, ck17, rfl, O_q18, MF19, B_gm4', B_g1', hk⟩
  replace K_0 := K_0.then_ hk (fun k h => h.elim (fun h => by rw [show k = g1 from h]; exact Or.inr z_0_g1) (fun h => by rw [show k = gm4 from h]; exact Or.inr z_0_gm4))
  replace B_gm4 := B_gm4'
  replace B_g1 := B_g1'
  have Nb_q18_g1 : ¬ OB A14 g1 := fun h => by have := (own_ob O_q18 h).1; have := hnb_g1; omega
  have Nb_q18_gm4 : ¬ OB A14 gm4 := fun h => by have := (own_ob O_q18 h).1; have := hnb_gm4; omega
  have Z_0_q18 : ∀ k, OB A14 k → (fun _ => False) k ∨ w.heap.size ≤ k := fun k h => .inr (by have := (own_ob O_q18 h).1; have := hnz_0; omega)
  replace O_q18 := own_lower O_q18 hnz_0
  refine ⟨_, rfl, ?_⟩
  clear hE a; intro a hE
  refine q0 p11_3_1 hE (st_move rfl) ?_
  clear hE a; intro a hE
  refine q0 p11_3_2 hE (st_extract rfl rfl) ?_
  clear hE a; intro a hE
  refine q0 p11_3_3 hE (st_extract rfl rfl) ?_
  clear hE a; intro a hE
  refine q0 p11_3_4 hE (st_assign rfl) ?_
  clear hE a; intro a hE
  refine q0 p11_3_5 hE (st_assign rfl) ?_
  clear hE a; intro a hE
  refine p_nil ?_
  refine x_norm ?_
  refine c_reg R11_4_l ?_
  refine q0 p11_4_0 hE (st_move rfl) ?_
  clear hE a; intro a hE
  refine q0 p11_4_1 hE (st_eql (b := true) rfl rfl (by decide)) ?_
  clear hE a; intro a hE
  refine q0 p11_4_2 hE (st_move rfl) ?_
  clear hE a; intro a hE
  refine p_cons (s_still p11_4_3 hE (wn_some g11_4_2 rfl rfl) rfl (st_move rfl) ?_)
  clear hE a; intro a hE
  refine p_cons (s_still p11_4_4 hE (wn_some g11_4_2 rfl rfl) rfl (st_eql (b := true) rfl rfl (by decide)) ?_)
  clear hE a; intro a hE
  refine q0 p11_4_5 hE (st_pick rfl rfl) ?_
  clear hE a; intro a hE
  refine q0 p11_4_6 hE (st_move rfl) ?_
  clear hE a; intro a hE
  refine p_cons (s_still p11_4_7 hE (wn_some g11_4_6 rfl rfl) rfl (st_move rfl) ?_)
  clear hE a; intro a hE
  refine p_cons (s_still p11_4_8 hE (wn_some g11_4_6 rfl rfl) rfl (st_eql (b := true) rfl rfl (by decide)) ?_)
  clear hE a; intro a hE
  refine q0 p11_4_9 hE (st_pick rfl rfl) ?_
  clear hE a; intro a hE
  refine q0 p11_4_10 hE (st_move rfl) ?_
  clear hE a; intro a hE
  refine p_cons (s_still p11_4_11 hE (wn_some g11_4_10 rfl rfl) rfl (st_move rfl) ?_)
  clear hE a; intro a hE
  refine p_cons (s_still p11_4_12 hE (wn_some g11_4_10 rfl rfl) rfl (st_eql (b := true) rfl rfl (by decide)) ?_)
  clear hE a; intro a hE
  refine q0 p11_4_13 hE (st_pick rfl rfl) ?_
  clear hE a; intro a hE
  refine q0 p11_4_14 hE (st_move rfl) ?_
  clear hE a; intro a hE
  refine p_cons (s_still p11_4_15 hE (wn_some g11_4_14 rfl rfl) rfl (st_move rfl) ?_)
  clear hE a; intro a hE
  refine p_cons (s_row (xs := [(0, Operand.const (Value.int IntKind.i64 2)), (1, Operand.const (Value.int IntKind.i64 1)), (2, Operand.const (Value.int IntKind.i64 3))]) (vs := [(0, Value.int .i64 2), (1, Value.int .i64 1), (2, Value.int .i64 3)]) (cs := #[Value.int .i64 2, Value.int .i64 1, Value.int .i64 3]) p11_4_16 hE (wn_some g11_4_14 rfl rfl) rfl Try.underlying35 rfl (by kernel_rfl) ?_)
  clear hE a; intro g21 w22 z23 B_g21 hk a hE
  have n_g1_g21 : g1 ≠ g21 := ne_new B_g1 z23
  have n_gm4_g21 : gm4 ≠ g21 := ne_new B_gm4 z23
  have z_0_g21 := Nat.le_trans K_0.kept.1 z23
  have Nb_q18_g21 : ¬ OB A14 g21 := fun h => by have := (own_ob O_q18 h).2; omega
  replace B_g1 := kp_blk B_g1 hk (fun h => h)
  replace B_gm4 := kp_blk B_gm4 hk (fun h => h)
  replace O_q18 := own_keep O_q18 hk (fun _ _ h => h)
  replace K_0 := K_0.then_ hk (fun _ h => h.elim)
  clear hk
  have hsm := same_i A14 (some ⟨g21, 0, none⟩) c15 3 [2, 1, 3] w22 (by decide) (by have h := (own_told O_q18); rw [kF] at h; exact h) (C_blk (k := .i64) (l := [2, 1, 3]) (off := 0) B_g21 ⟨rfl, Nat.le_of_ble_eq_true rfl⟩ rfl)
  rw [← kF] at hsm
  skip
  refine p_cons (s_call (xs := [Operand.tmp 29, Operand.tmp 30]) (args := [Value.slice A14 ((fireO (0 + 5) ([(3, 5), (1, 5), (2, 4)])).length) c15, Value.slice (some ⟨g21, 0, none⟩) 3 3]) p11_4_17 hE (wn_some g11_4_14 rfl rfl) rfl rfl Try.func15 cl15 ((by have h := same_i A14 (some ⟨g21, 0, none⟩) c15 3 [2, 1, 3] _ (by decide) (by have h := (own_told O_q18); rw [kF] at h; exact h) (C_blk (k := .i64) (l := [2, 1, 3]) (off := 0) B_g21 ⟨rfl, Nat.le_of_ble_eq_true rfl⟩ rfl); rw [← show (fireO (0 + 5) [(3, 5), (1, 5), (2, 4)]).length = ([2, 1, 3] : List Int).length by rw [kF]] at h; exact h)) ?_)
  rintro e w24 ⟨rfl, hk⟩
  replace B_g1 := kp_blk B_g1 hk (fun h => h)
  replace B_gm4 := kp_blk B_gm4 hk (fun h => h)
  replace B_g21 := kp_blk B_g21 hk (fun h => h)
  replace O_q18 := own_keep O_q18 hk (fun _ _ h => h)
  replace K_0 := K_0.then_ hk (fun _ h => h.elim)
  refine ⟨_, rfl, ?_⟩
  clear hE a; intro a hE
  refine q0 p11_4_18 hE (st_pick rfl rfl) ?_
  clear hE a; intro a hE
  refine q0 p11_4_19 hE (st_move rfl) ?_
  clear hE a; intro a hE
  refine p_cons (s_call (xs := [Operand.tmp 1]) (args := [Value.pointer (some ⟨g1, 0, none⟩)]) p11_4_20 hE (wn_some g11_4_19 rfl rfl) rfl rfl Try.func17 cl17 (now_any g1 (0 + 5) (Value.map (some gm4)) _ B_g1) ?_)
  rintro e w25 ⟨rfl, hk⟩
  replace B_g1 := kp_blk B_g1 hk (fun h => h)
  replace B_gm4 := kp_blk B_gm4 hk (fun h => h)
  replace B_g21 := kp_blk B_g21 hk (fun h => h)
  replace O_q18 := own_keep O_q18 hk (fun _ _ h => h)
  replace K_0 := K_0.then_ hk (fun _ h => h.elim)
  refine ⟨_, rfl, ?_⟩
  clear hE a; intro a hE
  refine p_cons (s_still p11_4_21 hE (wn_some g11_4_19 rfl rfl) rfl (st_eql (b := true) rfl rfl (by decide)) ?_)
  clear hE a; intro a hE
  refine q0 p11_4_22 hE (st_pick rfl rfl) ?_
  clear hE a; intro a hE
  refine q0 p11_4_23 hE (st_assign rfl) ?_
  clear hE a; intro a hE
  refine p_nil ?_
  refine x_norm ?_
  refine wp_ret ?_
  refine ret_one (v := Value.bool true) rfl hE (.tmp rfl .nil) ?_
  exact ⟨rfl, K_0⟩
end Go.Proofs.Ytlmjbmeigclihaa.Wo
