/- Layer 10: known, WheelOnce. -/
import Derived.Test.YtlmjbmeigclihaaWhl
import Derived.Test.YtlmjbmeigclihaaKdOpen
set_option maxRecDepth 100000
set_option linter.unusedVariables false
set_option linter.unusedSimpArgs false
namespace Go.Proofs.Ytlmjbmeigclihaa.Wo
open Go.RowKit Go.Proofs.YtlmjbmeigclihaaW.PrintWords Go.Proofs.Ytlmjbmeigclihaa.Ds Go.Proofs.Ytlmjbmeigclihaa.Wp Go.Proofs.Ytlmjbmeigclihaa.Wh Go.Proofs.Ytlmjbmeigclihaa.KdOpen
open Go.Proofs.Ytlmjbmeigclihaa.Pk (Kp)
open Go.Proofs.Ytlmjbmeigclihaa.Mi (st_eqlP st_neqP x_normS x_retS x_exitS MapI getI putI delI)
abbrev dA : Kd (Int × Int × Int) := Kd.pair (Kd.int .i64) (Kd.pair (Kd.int .i64) (Kd.int .i64))
abbrev zA : Int × Int × Int := (0, 0, 0)
theorem act_open {w : World} {k x y : Int} {l : List Value} (h : Kd.K dA w (k, x, y) l) : l = [.int .i64 k, .int .i64 x, .int .i64 y] := by
  obtain ⟨c0, d0, rfl, h0, c1, d1, rfl, h1, h2⟩ := h
  subst h0; subst h1
  rw [show d1 = [Value.int .i64 y] from h2]
  rfl
theorem set_nil_ok (g : Nat) (now : Int) (x n : Int) (w : World) (hnow : 0 ≤ now ∧ now ≤ 2305843009213693952) (hc : codeW now x n = 0) (hg : w.heap[g]? = some (.cells #[.int .i64 now, .map none] 29 (0, 0))) : Calls Try.prog 8 #[.pointer (some ⟨g, 0, none⟩), .int .i64 x, .int .i64 n] w fun e w' => ∃ gm es ck, e = .returned (.int .i64 0) ∧ w.heap.size ≤ gm ∧ w'.heap[g]? = some (.cells #[.int .i64 now, .map (some gm)] 29 (0, 0)) ∧ w'.heap[gm]? = some (.map es ck) ∧ MapI (Value.int .i64) es ck (setW [] now x n) ∧ Kp w w' (fun k => k = g) := by
  refine (set_nil g now x n w hnow hg).mono ?_
  rintro e w' ⟨rfl, ⟨h, _⟩ | ⟨gm, es, ck, _, h1, h2, h3, h4, h5, h6⟩⟩
  · exact absurd hc h
  · exact ⟨gm, es, ck, by rw [hc], h1, h3, h4, by unfold setW; rw [if_pos hc]; exact h5, h6⟩
theorem set_nil_no (g : Nat) (now : Int) (x n : Int) (w : World) (hnow : 0 ≤ now ∧ now ≤ 2305843009213693952) (hc : ¬ codeW now x n = 0) (hg : w.heap[g]? = some (.cells #[.int .i64 now, .map none] 29 (0, 0))) : Calls Try.prog 8 #[.pointer (some ⟨g, 0, none⟩), .int .i64 x, .int .i64 n] w fun e w' => e = .returned (.int .i64 (codeW now x n)) ∧ w'.heap[g]? = some (.cells #[.int .i64 now, .map none] 29 (0, 0)) ∧ Kp w w' (fun k => k = g) := by
  refine (set_nil g now x n w hnow hg).mono ?_
  rintro e w' ⟨rfl, ⟨_, h1, h2⟩ | ⟨_, _, _, h, _⟩⟩
  · exact ⟨rfl, h1, h2⟩
  · exact absurd h hc
theorem set_map_ok (g gm ck : Nat) (es : Array MapEntry) (l : Wp.LW) (now : Int) (x n : Int) (w : World) (hnow : 0 ≤ now ∧ now ≤ 2305843009213693952) (hc : codeW now x n = 0) (hg : w.heap[g]? = some (.cells #[.int .i64 now, .map (some gm)] 29 (0, 0))) (hm : w.heap[gm]? = some (.map es ck)) (hF : MapI (Value.int .i64) es ck l) (hne : g ≠ gm) : Calls Try.prog 8 #[.pointer (some ⟨g, 0, none⟩), .int .i64 x, .int .i64 n] w fun e w' => ∃ es' ck', e = .returned (.int .i64 0) ∧ MapI (Value.int .i64) es' ck' (setW l now x n) ∧ w'.heap[gm]? = some (.map es' ck') ∧ Kp w w' (fun k => k = gm) := by
  have := set_map g gm ck es l now x n w hnow hg hm hF hne
  rw [hc] at this
  exact this
def FrontOk (l : LW) (i : Nat) : Prop := l.length ≤ i ∧ ∀ p ∈ l, 1 ≤ p.2 ∧ p.2 ≤ 1099511627776
theorem front_nil (i : Nat) : FrontOk [] i := ⟨Nat.zero_le _, fun p hp => by cases hp⟩
theorem putI_mem {l : LW} {x v : Int} {p : Int × Int} (h : p ∈ putI l x v) : p ∈ l ∨ p = (x, v) := by
  induction l with
  | nil => exact .inr (List.mem_singleton.1 h)
  | cons q l ih =>
    unfold putI at h
    split at h
    · rcases List.mem_cons.1 h with h | h
      · exact .inr h
      · exact .inl (List.mem_cons_of_mem _ h)
    · rcases List.mem_cons.1 h with h | h
      · exact .inl (by rw [h]; exact List.mem_cons_self ..)
      · exact (ih h).imp (List.mem_cons_of_mem _) id
theorem code_ok {x n : Int} (h : codeW 0 x n = 0) : 1 ≤ n ∧ n ≤ 1099511627776 := by
  unfold codeW at h
  split at h
  · rename_i h1; exact h1.2
  · cases h
theorem front_set {l : LW} {i : Nat} {x n : Int} (h : FrontOk l i) : FrontOk (setW l 0 x n) (i + 1) := by
  unfold setW
  split
  · rename_i hc
    have hb := code_ok hc
    refine ⟨?_, fun p hp => ?_⟩
    · have := Mi.putI_len l x (0 + n)
      have := h.1
      split at * <;> omega
    · rcases putI_mem hp with h1 | h1
      · exact h.2 p h1
      · rw [h1]; show 1 ≤ 0 + n ∧ 0 + n ≤ _; omega
  · exact ⟨Nat.le_succ_of_le h.1, h.2⟩
theorem R15_0_l : List.range (regOf Try.f15 0).size = [0] := by kernel_rfl
theorem R15_1_l : List.range (regOf Try.f15 1).size = [0, 1, 2, 3, 4] := by kernel_rfl
theorem R15_2_l : List.range (regOf Try.f15 2).size = [0] := by kernel_rfl
theorem R15_3_l : List.range (regOf Try.f15 3).size = [0] := by kernel_rfl
theorem R15_4_l : List.range (regOf Try.f15 4).size = [0, 1, 2, 3] := by kernel_rfl
theorem R15_6_l : List.range (regOf Try.f15 6).size = [0, 1, 2, 3, 4, 5, 6, 7, 8] := by kernel_rfl
theorem R15_7_l : List.range (regOf Try.f15 7).size = [0] := by kernel_rfl
theorem R15_5_l : List.range (regOf Try.f15 5).size = [0, 1, 2] := by kernel_rfl
theorem R15_8_l : List.range (regOf Try.f15 8).size = [0] := by kernel_rfl
theorem body15 : Try.f15.body = some (.seq (.region 0 (regOf Try.f15 0) false) (.seq (.seq (.region 1 (regOf Try.f15 1) false) (.cond (Operand.tmp 10) (.seq (.region 2 (regOf Try.f15 2) false) (.ret)) (.skip))) (.seq (.seq (.region 3 (regOf Try.f15 3) false) (.block 0 (.loop (.seq (.seq (.region 4 (regOf Try.f15 4) false) (.cond (Operand.tmp 14) (.skip) (.exit 0))) (.seq (.block 1 (.seq (.region 6 (regOf Try.f15 6) true) (.cond (Operand.tmp 25) (.seq (.region 7 (regOf Try.f15 7) false) (.ret)) (.skip)))) (.region 5 (regOf Try.f15 5) false)))))) (.seq (.region 8 (regOf Try.f15 8) false) (.ret))))) := by kernel_rfl
theorem p15_0_0 : pj (regOf Try.f15 0) 0 = some (some 4, .assign (.const (.bool false)), 4, none) := by kernel_rfl
theorem p15_1_0 : pj (regOf Try.f15 1) 0 = some (some 6, .move (.tmp 0), 35, none) := by kernel_rfl
theorem p15_1_1 : pj (regOf Try.f15 1) 1 = some (some 7, .call { callee := .builtin .len, args := #[.tmp 6], argTypes := #[35] }, 3, none) := by kernel_rfl
theorem p15_1_2 : pj (regOf Try.f15 1) 2 = some (some 8, .move (.tmp 1), 35, none) := by kernel_rfl
theorem p15_1_3 : pj (regOf Try.f15 1) 3 = some (some 9, .call { callee := .builtin .len, args := #[.tmp 8], argTypes := #[35] }, 3, none) := by kernel_rfl
theorem p15_1_4 : pj (regOf Try.f15 1) 4 = some (some 10, .binOp .neq 3 (.tmp 7) (.tmp 9) 3, 4, none) := by kernel_rfl
theorem p15_3_0 : pj (regOf Try.f15 3) 0 = some (some 5, .assign (.const (.int .i64 0)), 3, none) := by kernel_rfl
theorem p15_4_0 : pj (regOf Try.f15 4) 0 = some (some 11, .move (.tmp 5), 3, none) := by kernel_rfl
theorem p15_4_1 : pj (regOf Try.f15 4) 1 = some (some 12, .move (.tmp 0), 35, none) := by kernel_rfl
theorem p15_4_2 : pj (regOf Try.f15 4) 2 = some (some 13, .call { callee := .builtin .len, args := #[.tmp 12], argTypes := #[35] }, 3, none) := by kernel_rfl
theorem p15_4_3 : pj (regOf Try.f15 4) 3 = some (some 14, .binOp .lss 3 (.tmp 11) (.tmp 13) 3, 4, none) := by kernel_rfl
theorem ns15_6 : Region.noSelect (regOf Try.f15 6) = true := by kernel_rfl
theorem p15_6_0 : pj (regOf Try.f15 6) 0 = some (some 17, .move (.tmp 0), 35, none) := by kernel_rfl
theorem p15_6_1 : pj (regOf Try.f15 6) 1 = some (some 18, .move (.tmp 5), 3, none) := by kernel_rfl
theorem p15_6_2 : pj (regOf Try.f15 6) 2 = some (some 19, .indexAddr 35 (.tmp 17) (.tmp 18), 0, none) := by kernel_rfl
theorem tS3 : (Try.prog.info? 3).map (·.size) = some 1 := by kernel_rfl
theorem p15_6_3 : pj (regOf Try.f15 6) 3 = some (some 20, .load 3 (.tmp 19), 3, none) := by kernel_rfl
theorem tA3 : (Try.prog.underlying 3).map aggD = some false := by kernel_rfl
theorem p15_6_4 : pj (regOf Try.f15 6) 4 = some (some 21, .move (.tmp 1), 35, none) := by kernel_rfl
theorem p15_6_5 : pj (regOf Try.f15 6) 5 = some (some 22, .move (.tmp 5), 3, none) := by kernel_rfl
theorem p15_6_6 : pj (regOf Try.f15 6) 6 = some (some 23, .indexAddr 35 (.tmp 21) (.tmp 22), 0, none) := by kernel_rfl
theorem p15_6_7 : pj (regOf Try.f15 6) 7 = some (some 24, .load 3 (.tmp 23), 3, none) := by kernel_rfl
theorem p15_6_8 : pj (regOf Try.f15 6) 8 = some (some 25, .binOp .neq 3 (.tmp 20) (.tmp 24) 3, 4, none) := by kernel_rfl
theorem p15_5_0 : pj (regOf Try.f15 5) 0 = some (some 15, .move (.tmp 5), 3, none) := by kernel_rfl
theorem p15_5_1 : pj (regOf Try.f15 5) 1 = some (some 16, .binOp .add 3 (.tmp 15) (.const (.int .i64 1)) 3, 3, none) := by kernel_rfl
theorem p15_5_2 : pj (regOf Try.f15 5) 2 = some (some 5, .assign (.tmp 16), 3, none) := by kernel_rfl
theorem p15_8_0 : pj (regOf Try.f15 8) 0 = some (some 4, .assign (.const (.bool true)), 4, none) := by kernel_rfl
set_option maxHeartbeats 4000000 in
theorem same_i (A B : Option Addr) (c cb : Nat) (l : List Int) (w : World) (hl : l.length ≤ 1000000) (hF : Kd.C (Kd.int .i64) w A l.length l) (hG : Kd.C (Kd.int .i64) w B l.length l) : Calls Try.prog 15 #[.slice A l.length c, .slice B l.length cb] w fun e w' => e = .returned (.bool true) ∧ Kp w w' (fun _ => False) := by
  have K_0 := Kp.refl w (fun _ => False)
  refine enter (args := [Value.slice A l.length c, Value.slice B l.length cb]) (n := 26) Try.func15 body15 rfl rfl rfl ?_
  intro a hE
  refine c_reg R15_0_l ?_
  refine q0 p15_0_0 hE (st_assign rfl) ?_
  clear hE a; intro a hE
  refine p_nil ?_
  refine x_norm ?_
  refine wp_seq ?_
  refine c_reg R15_1_l ?_
  refine q0 p15_1_0 hE (st_move rfl) ?_
  clear hE a; intro a hE
  refine q0 p15_1_1 hE (st_len Try.underlying35 rfl) ?_
  clear hE a; intro a hE
  refine q0 p15_1_2 hE (st_move rfl) ?_
  clear hE a; intro a hE
  refine q0 p15_1_3 hE (st_len Try.underlying35 rfl) ?_
  clear hE a; intro a hE
  refine q0 p15_1_4 hE (st_neq (b := false) rfl rfl (by simp)) ?_
  clear hE a; intro a hE
  refine p_nil ?_
  refine x_norm ?_
  refine c_cond (t := false) hE rfl ?_
  refine wp_skip ?_
  refine x_norm ?_
  refine wp_seq ?_
  refine c_reg R15_3_l ?_
  refine q0 p15_3_0 hE (st_assign rfl) ?_
  clear hE a; intro a hE
  refine p_nil ?_
  refine x_norm ?_
  refine wp_block ?_
  refine c_loop (α := Nat) (fun j a W => En 26 a [(0, Value.slice A l.length c), (1, Value.slice B l.length cb), (10, Value.bool false), (5, Value.int .i64 (j : Int))] ∧ j ≤ l.length ∧ Kp w W (fun _ => False)) (fun j => l.length - j) (0) ?_ ?_
  ·
    exact ⟨En.sub hE ⟨rfl, rfl, rfl, rfl, trivial⟩, Nat.zero_le _, K_0⟩
  ·
    clear hE a
    rintro j a w1 ⟨hE, hj9, K_0⟩
    refine wp_seq ?_
    rcases Decidable.em ((j : Int) < (l.length : Int)) with hK1 | hK1
    ·
      refine c_reg R15_4_l ?_
      refine q0 p15_4_0 hE (st_move rfl) ?_
      clear hE a; intro a hE
      refine q0 p15_4_1 hE (st_move rfl) ?_
      clear hE a; intro a hE
      refine q0 p15_4_2 hE (st_len Try.underlying35 rfl) ?_
      clear hE a; intro a hE
      refine q0 p15_4_3 hE (st_lss (b := true) rfl rfl (decide_eq_true hK1)) ?_
      clear hE a; intro a hE
      refine p_nil ?_
      refine x_norm ?_
      refine c_cond (t := true) hE rfl ?_
      refine wp_skip ?_
      refine x_norm ?_
      refine wp_seq ?_
      refine wp_block ?_
      refine c_drawS (S := fun W => Kd.C (Kd.int .i64) W A l.length l ∧ Kd.C (Kd.int .i64) W B l.length l ∧ True) rfl rfl (listed := #[false, false, false, false, false, false, false, false, false]) rfl ?_
      intro w2 hh hk
      replace K_0 := K_0.then_ hk (fun _ h => h.elim)
      clear hh hk
      refine d_take (v := Value.slice A l.length c) p15_6_0 ns15_6 (by kernel_rfl) (by kernel_rfl) (fun _ _ _ h => h) hE wn_none rfl ⟨(C_to hF K_0), (C_to hG K_0), trivial⟩ (fun W hS => (st_move rfl)) rfl ?_
      clear hE a; intro a hE
      refine d_take (v := Value.int .i64 (j : Int)) p15_6_1 ns15_6 (by kernel_rfl) (by kernel_rfl) (fun _ _ _ h => h) hE wn_none rfl ⟨(C_to hF K_0), (C_to hG K_0), trivial⟩ (fun W hS => (st_move rfl)) rfl ?_
      clear hE a; intro a hE
      refine d_take (v := Value.pointer (some (ea A j))) p15_6_2 ns15_6 (by kernel_rfl) (by kernel_rfl) (fun _ _ _ h => h) hE wn_none rfl ⟨(C_to hF K_0), (C_to hG K_0), trivial⟩ (fun W hS => (st_indexAddrS (i := j) Try.underlying35 tS3 (C_at (C_to hF K_0) (show j < _ by omega)).1 rfl rfl (by omega))) rfl ?_
      clear hE a; intro a hE
      refine d_take (v := Value.int .i64 (rd l (j : Int))) p15_6_3 ns15_6 (by kernel_rfl) (by kernel_rfl) (fun _ _ _ h => h) hE wn_none rfl ⟨(C_to hF K_0), (C_to hG K_0), trivial⟩ (fun W hS => (st_loadC (i := j) tA3 (hS.1) (by omega) rfl)) rfl ?_
      clear hE a; intro a hE
      refine d_take (v := Value.slice B l.length cb) p15_6_4 ns15_6 (by kernel_rfl) (by kernel_rfl) (fun _ _ _ h => h) hE wn_none rfl ⟨(C_to hF K_0), (C_to hG K_0), trivial⟩ (fun W hS => (st_move rfl)) rfl ?_
      clear hE a; intro a hE
      refine d_take (v := Value.int .i64 (j : Int)) p15_6_5 ns15_6 (by kernel_rfl) (by kernel_rfl) (fun _ _ _ h => h) hE wn_none rfl ⟨(C_to hF K_0), (C_to hG K_0), trivial⟩ (fun W hS => (st_move rfl)) rfl ?_
      clear hE a; intro a hE
      refine d_take (v := Value.pointer (some (ea B j))) p15_6_6 ns15_6 (by kernel_rfl) (by kernel_rfl) (fun _ _ _ h => h) hE wn_none rfl ⟨(C_to hF K_0), (C_to hG K_0), trivial⟩ (fun W hS => (st_indexAddrS (i := j) Try.underlying35 tS3 (C_at (C_to hG K_0) (show j < _ by omega)).1 rfl rfl (by omega))) rfl ?_
      clear hE a; intro a hE
      refine d_take (v := Value.int .i64 (rd l (j : Int))) p15_6_7 ns15_6 (by kernel_rfl) (by kernel_rfl) (fun _ _ _ h => h) hE wn_none rfl ⟨(C_to hF K_0), (C_to hG K_0), trivial⟩ (fun W hS => (st_loadC (i := j) tA3 (hS.2.1) (by omega) rfl)) rfl ?_
      clear hE a; intro a hE
      refine d_take (v := Value.bool false) p15_6_8 ns15_6 (by kernel_rfl) (by kernel_rfl) (fun _ _ _ h => h) hE wn_none rfl ⟨(C_to hF K_0), (C_to hG K_0), trivial⟩ (fun W hS => (st_neq (b := false) rfl rfl (by simp))) rfl ?_
      clear hE a; intro a hE
      refine d_end (by kernel_rfl) ?_
      refine x_norm ?_
      refine c_cond (t := false) hE rfl ?_
      refine wp_skip ?_
      refine x_normB ?_
      refine x_norm ?_
      refine c_regL R15_5_l ?_
      refine q0 p15_5_0 hE (st_move rfl) ?_
      clear hE a; intro a hE
      refine q0 p15_5_1 hE (st_add (z := (j : Int) + 1) rfl rfl (wr_i64 _ (by omega) (by omega))) ?_
      clear hE a; intro a hE
      refine q0 p15_5_2 hE (st_assign rfl) ?_
      clear hE a; intro a hE
      refine p_nil ?_
      refine x_norm ?_
      exact ⟨j + 1, by omega, En.sub hE ⟨rfl, rfl, rfl, rfl, trivial⟩, by omega, K_0⟩
    ·
      refine c_reg R15_4_l ?_
      refine q0 p15_4_0 hE (st_move rfl) ?_
      clear hE a; intro a hE
      refine q0 p15_4_1 hE (st_move rfl) ?_
      clear hE a; intro a hE
      refine q0 p15_4_2 hE (st_len Try.underlying35 rfl) ?_
      clear hE a; intro a hE
      refine q0 p15_4_3 hE (st_lss (b := false) rfl rfl (decide_eq_false hK1)) ?_
      clear hE a; intro a hE
      refine p_nil ?_
      refine x_norm ?_
      refine c_cond (t := false) hE rfl ?_
      refine wp_exit ?_
      refine x_exit ?_
      refine x_exit ?_
      refine x_in ?_
      refine x_norm ?_
      refine c_reg R15_8_l ?_
      refine q0 p15_8_0 hE (st_assign rfl) ?_
      clear hE a; intro a hE
      refine p_nil ?_
      refine x_norm ?_
      refine wp_ret ?_
      refine ret_one (v := Value.bool true) rfl hE (.tmp rfl .nil) ?_
      exact ⟨rfl, K_0⟩
theorem kL : setW (setW (setW [] 0 3 5) 0 1 5) 0 2 4 = [(3, 5), (1, 5), (2, 4)] := by decide +kernel
theorem kF : fireO (0 + 5) [(3, 5), (1, 5), (2, 4)] = [2, 1, 3] := by decide +kernel
theorem R11_0_l : List.range (regOf Try.f11 0).size = [0] := by kernel_rfl
theorem R11_1_l : List.range (regOf Try.f11 1).size = [0] := by kernel_rfl
theorem R11_2_l : List.range (regOf Try.f11 2).size = [0, 1, 2, 3, 4, 5] := by kernel_rfl
theorem R11_3_l : List.range (regOf Try.f11 3).size = [0, 1, 2, 3, 4, 5] := by kernel_rfl
theorem R11_4_l : List.range (regOf Try.f11 4).size = [0, 1, 2, 3, 4, 5, 6, 7, 8, 9, 10, 11, 12, 13, 14, 15, 16, 17, 18, 19, 20, 21, 22, 23] := by kernel_rfl
theorem body11 : Try.f11.body = some (.seq (.region 0 (regOf Try.f11 0) false) (.seq (.region 1 (regOf Try.f11 1) false) (.seq (.region 2 (regOf Try.f11 2) false) (.seq (.region 3 (regOf Try.f11 3) false) (.seq (.region 4 (regOf Try.f11 4) false) (.ret)))))) := by kernel_rfl
theorem p11_0_0 : pj (regOf Try.f11 0) 0 = some (some 0, .assign (.const (.bool false)), 4, none) := by kernel_rfl
theorem p11_1_0 : pj (regOf Try.f11 1) 0 = some (some 1, .alloc 29, 0, none) := by kernel_rfl
theorem tZ29 : (Try.prog.info? 29).bind (·.zero) = some (Value.agg #[Value.int .i64 0, Value.map none]) := by kernel_rfl
theorem p11_2_0 : pj (regOf Try.f11 2) 0 = some (some 7, .call { callee := .value (.func 8), args := #[.tmp 1, .const (.int .i64 3), .const (.int .i64 5)], argTypes := #[29, 3, 3] }, 30, none) := by kernel_rfl
theorem cl8 : callable Try.f8 = true := by kernel_rfl
theorem p11_2_1 : pj (regOf Try.f11 2) 1 = some (some 8, .call { callee := .value (.func 8), args := #[.tmp 1, .const (.int .i64 1), .const (.int .i64 5)], argTypes := #[29, 3, 3] }, 30, none) := by kernel_rfl
theorem p11_2_2 : pj (regOf Try.f11 2) 2 = some (some 9, .call { callee := .value (.func 8), args := #[.tmp 1, .const (.int .i64 2), .const (.int .i64 4)], argTypes := #[29, 3, 3] }, 30, none) := by kernel_rfl
theorem p11_2_3 : pj (regOf Try.f11 2) 3 = some (some 2, .assign (.tmp 7), 30, none) := by kernel_rfl
theorem p11_2_4 : pj (regOf Try.f11 2) 4 = some (some 3, .assign (.tmp 8), 30, none) := by kernel_rfl
theorem p11_2_5 : pj (regOf Try.f11 2) 5 = some (some 4, .assign (.tmp 9), 30, none) := by kernel_rfl
theorem p11_3_0 : pj (regOf Try.f11 3) 0 = some (some 11, .call { callee := .value (.func 13), args := #[.tmp 1, .const (.int .i64 5)], argTypes := #[29, 3] }, 40, none) := by kernel_rfl
theorem cl13 : callable Try.f13 = true := by kernel_rfl
theorem p11_3_1 : pj (regOf Try.f11 3) 1 = some (some 10, .move (.tmp 11), 40, none) := by kernel_rfl
theorem p11_3_2 : pj (regOf Try.f11 3) 2 = some (some 12, .extract (.tmp 10) 0, 35, none) := by kernel_rfl
theorem p11_3_3 : pj (regOf Try.f11 3) 3 = some (some 13, .extract (.tmp 10) 1, 30, none) := by kernel_rfl
theorem p11_3_4 : pj (regOf Try.f11 3) 4 = some (some 5, .assign (.tmp 12), 35, none) := by kernel_rfl
theorem p11_3_5 : pj (regOf Try.f11 3) 5 = some (some 6, .assign (.tmp 13), 30, none) := by kernel_rfl
theorem p11_4_0 : pj (regOf Try.f11 4) 0 = some (some 14, .move (.tmp 2), 30, none) := by kernel_rfl
theorem p11_4_1 : pj (regOf Try.f11 4) 1 = some (some 15, .binOp .eql 30 (.tmp 14) (.const (.int .i64 0)) 30, 4, none) := by kernel_rfl
theorem p11_4_2 : pj (regOf Try.f11 4) 2 = some (some 16, .move (.tmp 15), 4, none) := by kernel_rfl
theorem p11_4_3 : pj (regOf Try.f11 4) 3 = some (some 17, .move (.tmp 3), 30, some (2, true)) := by kernel_rfl
theorem g11_4_2 : dstOf (regOf Try.f11 4) 2 = some 16 := by kernel_rfl
theorem p11_4_4 : pj (regOf Try.f11 4) 4 = some (some 18, .binOp .eql 30 (.tmp 17) (.const (.int .i64 0)) 30, 4, some (2, true)) := by kernel_rfl
theorem p11_4_5 : pj (regOf Try.f11 4) 5 = some (some 19, .pick (.tmp 16) (.tmp 18) (.const (.bool false)), 4, none) := by kernel_rfl
theorem p11_4_6 : pj (regOf Try.f11 4) 6 = some (some 20, .move (.tmp 19), 4, none) := by kernel_rfl
theorem p11_4_7 : pj (regOf Try.f11 4) 7 = some (some 21, .move (.tmp 4), 30, some (6, true)) := by kernel_rfl
theorem g11_4_6 : dstOf (regOf Try.f11 4) 6 = some 20 := by kernel_rfl
theorem p11_4_8 : pj (regOf Try.f11 4) 8 = some (some 22, .binOp .eql 30 (.tmp 21) (.const (.int .i64 0)) 30, 4, some (6, true)) := by kernel_rfl
theorem p11_4_9 : pj (regOf Try.f11 4) 9 = some (some 23, .pick (.tmp 20) (.tmp 22) (.const (.bool false)), 4, none) := by kernel_rfl
theorem p11_4_10 : pj (regOf Try.f11 4) 10 = some (some 24, .move (.tmp 23), 4, none) := by kernel_rfl
theorem p11_4_11 : pj (regOf Try.f11 4) 11 = some (some 25, .move (.tmp 6), 30, some (10, true)) := by kernel_rfl
theorem g11_4_10 : dstOf (regOf Try.f11 4) 10 = some 24 := by kernel_rfl
theorem p11_4_12 : pj (regOf Try.f11 4) 12 = some (some 26, .binOp .eql 30 (.tmp 25) (.const (.int .i64 0)) 30, 4, some (10, true)) := by kernel_rfl
theorem p11_4_13 : pj (regOf Try.f11 4) 13 = some (some 27, .pick (.tmp 24) (.tmp 26) (.const (.bool false)), 4, none) := by kernel_rfl
theorem p11_4_14 : pj (regOf Try.f11 4) 14 = some (some 28, .move (.tmp 27), 4, none) := by kernel_rfl
theorem p11_4_15 : pj (regOf Try.f11 4) 15 = some (some 29, .move (.tmp 5), 35, some (14, true)) := by kernel_rfl
theorem g11_4_14 : dstOf (regOf Try.f11 4) 14 = some 28 := by kernel_rfl
theorem p11_4_16 : pj (regOf Try.f11 4) 16 = some (some 30, .buildSlice 35 3 #[(0, .const (.int .i64 2)), (1, .const (.int .i64 1)), (2, .const (.int .i64 3))], 35, some (14, true)) := by kernel_rfl
theorem p11_4_17 : pj (regOf Try.f11 4) 17 = some (some 31, .call { callee := .value (.func 15), args := #[.tmp 29, .tmp 30], argTypes := #[35, 35] }, 4, some (14, true)) := by kernel_rfl
theorem cl15 : callable Try.f15 = true := by kernel_rfl
theorem p11_4_18 : pj (regOf Try.f11 4) 18 = some (some 32, .pick (.tmp 28) (.tmp 31) (.const (.bool false)), 4, none) := by kernel_rfl
theorem p11_4_19 : pj (regOf Try.f11 4) 19 = some (some 33, .move (.tmp 32), 4, none) := by kernel_rfl
theorem p11_4_20 : pj (regOf Try.f11 4) 20 = some (some 34, .call { callee := .value (.func 17), args := #[.tmp 1], argTypes := #[29] }, 3, some (19, true)) := by kernel_rfl
theorem g11_4_19 : dstOf (regOf Try.f11 4) 19 = some 33 := by kernel_rfl
theorem cl17 : callable Try.f17 = true := by kernel_rfl
theorem p11_4_21 : pj (regOf Try.f11 4) 21 = some (some 35, .binOp .eql 3 (.tmp 34) (.const (.int .i64 5)) 3, 4, some (19, true)) := by kernel_rfl
theorem p11_4_22 : pj (regOf Try.f11 4) 22 = some (some 36, .pick (.tmp 33) (.tmp 35) (.const (.bool false)), 4, none) := by kernel_rfl
theorem p11_4_23 : pj (regOf Try.f11 4) 23 = some (some 0, .assign (.tmp 36), 4, none) := by kernel_rfl
set_option maxHeartbeats 4000000 in
theorem kn10 (w : World) : Calls Try.prog 11 #[] w fun e w' => e = .returned (.bool true) ∧ Kp w w' (fun _ => False) := by
  have K_0 := Kp.refl w (fun _ => False)
  refine enter (args := []) (n := 37) Try.func11 body11 rfl rfl rfl ?_
  intro a hE
  refine c_reg R11_0_l ?_
  refine q0 p11_0_0 hE (st_assign rfl) ?_
  clear hE a; intro a hE
  refine p_nil ?_
  refine x_norm ?_
  refine c_reg R11_1_l ?_
  refine p_cons (s_alloc p11_1_0 hE wn_none rfl tZ29 ?_)
  clear hE a; intro g1 w2 z3 B_g1 hk a hE
  replace B_g1 : w2.heap[g1]? = some (.cells #[Value.int .i64 0, Value.map none] 29 (0, 0)) := B_g1
  have z_0_g1 := Nat.le_trans K_0.kept.1 z3
  replace K_0 := K_0.then_ hk (fun _ h => h.elim)
  clear hk
  refine p_nil ?_
  refine x_norm ?_
  refine c_reg R11_2_l ?_
  refine p_cons (s_call (xs := [Operand.tmp 1, Operand.const (Value.int IntKind.i64 3), Operand.const (Value.int IntKind.i64 5)]) (args := [Value.pointer (some ⟨g1, 0, none⟩), Value.int .i64 3, Value.int .i64 5]) p11_2_0 hE wn_none rfl rfl Try.func8 cl8 (set_nil_ok g1 0 3 5 _ ⟨by decide, by decide⟩ (by decide +kernel) B_g1) ?_)
  rintro e w9 ⟨gm4, es5, ck6, rfl, z7, B_g1', B_gm4, MF8, hk⟩
  have n_g1_gm4 : g1 ≠ gm4 := ne_new B_g1 z7
  have z_0_gm4 := Nat.le_trans K_0.kept.1 z7
  replace K_0 := K_0.then_ hk (fun k h => by rw [show k = g1 from h]; exact Or.inr z_0_g1)
  replace B_g1 := B_g1'
  refine ⟨_, rfl, ?_⟩
  clear hE a; intro a hE
  refine p_cons (s_call (xs := [Operand.tmp 1, Operand.const (Value.int IntKind.i64 1), Operand.const (Value.int IntKind.i64 5)]) (args := [Value.pointer (some ⟨g1, 0, none⟩), Value.int .i64 1, Value.int .i64 5]) p11_2_1 hE wn_none rfl rfl Try.func8 cl8 (set_map_ok g1 gm4 ck6 es5 (setW [] 0 3 5) 0 1 5 _ ⟨by decide, by decide⟩ (by decide +kernel) B_g1 B_gm4 MF8 n_g1_gm4) ?_)
  rintro e w11 ⟨esm10, ckm10, rfl, MFm10, B_gm4', hk⟩
  replace B_g1 := kp_blk B_g1 hk n_g1_gm4
  replace K_0 := K_0.then_ hk (fun k h => by rw [show k = gm4 from h]; exact Or.inr z_0_gm4)
  replace B_gm4 := B_gm4'
  refine ⟨_, rfl, ?_⟩
  clear hE a; intro a hE
  refine p_cons (s_call (xs := [Operand.tmp 1, Operand.const (Value.int IntKind.i64 2), Operand.const (Value.int IntKind.i64 4)]) (args := [Value.pointer (some ⟨g1, 0, none⟩), Value.int .i64 2, Value.int .i64 4]) p11_2_2 hE wn_none rfl rfl Try.func8 cl8 (set_map_ok g1 gm4 ckm10 esm10 (setW (setW [] 0 3 5) 0 1 5) 0 2 4 _ ⟨by decide, by decide⟩ (by decide +kernel) B_g1 B_gm4 MFm10 n_g1_gm4) ?_)
  rintro e w13 ⟨esm12, ckm12, rfl, MFm12, B_gm4', hk⟩
  replace B_g1 := kp_blk B_g1 hk n_g1_gm4
  replace K_0 := K_0.then_ hk (fun k h => by rw [show k = gm4 from h]; exact Or.inr z_0_gm4)
  replace B_gm4 := B_gm4'
  refine ⟨_, rfl, ?_⟩
  clear hE a; intro a hE
  refine q0 p11_2_3 hE (st_assign rfl) ?_
  clear hE a; intro a hE
  refine q0 p11_2_4 hE (st_assign rfl) ?_
  clear hE a; intro a hE
  refine q0 p11_2_5 hE (st_assign rfl) ?_
  clear hE a; intro a hE
  refine p_nil ?_
  refine x_norm ?_
  refine c_reg R11_3_l ?_
  have MFk : MapI (Value.int .i64) esm12 ckm12 [(3, 5), (1, 5), (2, 4)] := by rw [← kL]; exact MFm12
  have hnb_g1 := blk_lt B_g1
  have hnb_gm4 := blk_lt B_gm4
  have hnz_0 := K_0.kept.1
  refine p_cons (s_call (xs := [Operand.tmp 1, Operand.const (Value.int IntKind.i64 5)]) (args := [Value.pointer (some ⟨g1, 0, none⟩), Value.int .i64 5]) p11_3_0 hE wn_none rfl rfl Try.func13 cl13 (run_any g1 gm4 ckm12 esm12 ([(3, 5), (1, 5), (2, 4)]) 0 5 5 _ (by decide) ⟨by decide, by decide⟩ ⟨by decide, by decide⟩ (by decide) B_g1 B_gm4 MFk n_g1_gm4) ?_)
  rintro e w20 ⟨A14, c15, es16, ck17, rfl, O_q18, MF19, B_gm4', B_g1', hk⟩
  replace K_0 := K_0.then_ hk (fun k h => h.elim (fun h => by rw [show k = g1 from h]; exact Or.inr z_0_g1) (fun h => by rw [show k = gm4 from h]; exact Or.inr z_0_gm4))
  replace B_gm4 := B_gm4'
  replace B_g1 := B_g1'
  have Nb_q18_g1 : ¬ OB A14 g1 := fun h => by have := (own_ob O_q18 h).1; have := hnb_g1; omega
  have Nb_q18_gm4 : ¬ OB A14 gm4 := fun h => by have := (own_ob O_q18 h).1; have := hnb_gm4; omega
  have Z_0_q18 : ∀ k, OB A14 k → (fun _ => False) k ∨ w.heap.size ≤ k := fun k h => .inr (by have := (own_ob O_q18 h).1; have := hnz_0; omega)
  replace O_q18 := own_lower O_q18 hnz_0
  refine ⟨_, rfl, ?_⟩
  clear hE a; intro a hE
  refine q0 p11_3_1 hE (st_move rfl) ?_
  clear hE a; intro a hE
  refine q0 p11_3_2 hE (st_extract rfl rfl) ?_
  clear hE a; intro a hE
  refine q0 p11_3_3 hE (st_extract rfl rfl) ?_
  clear hE a; intro a hE
  refine q0 p11_3_4 hE (st_assign rfl) ?_
  clear hE a; intro a hE
  refine q0 p11_3_5 hE (st_assign rfl) ?_
  clear hE a; intro a hE
  refine p_nil ?_
  refine x_norm ?_
  refine c_reg R11_4_l ?_
  refine q0 p11_4_0 hE (st_move rfl) ?_
  clear hE a; intro a hE
  refine q0 p11_4_1 hE (st_eql (b := true) rfl rfl (by decide)) ?_
  clear hE a; intro a hE
  refine q0 p11_4_2 hE (st_move rfl) ?_
  clear hE a; intro a hE
  refine p_cons (s_still p11_4_3 hE (wn_some g11_4_2 rfl rfl) rfl (st_move rfl) ?_)
  clear hE a; intro a hE
  refine p_cons (s_still p11_4_4 hE (wn_some g11_4_2 rfl rfl) rfl (st_eql (b := true) rfl rfl (by decide)) ?_)
  clear hE a; intro a hE
  refine q0 p11_4_5 hE (st_pick rfl rfl) ?_
  clear hE a; intro a hE
  refine q0 p11_4_6 hE (st_move rfl) ?_
  clear hE a; intro a hE
  refine p_cons (s_still p11_4_7 hE (wn_some g11_4_6 rfl rfl) rfl (st_move rfl) ?_)
  clear hE a; intro a hE
  refine p_cons (s_still p11_4_8 hE (wn_some g11_4_6 rfl rfl) rfl (st_eql (b := true) rfl rfl (by decide)) ?_)
  clear hE a; intro a hE
  refine q0 p11_4_9 hE (st_pick rfl rfl) ?_
  clear hE a; intro a hE
  refine q0 p11_4_10 hE (st_move rfl) ?_
  clear hE a; intro a hE
  refine p_cons (s_still p11_4_11 hE (wn_some g11_4_10 rfl rfl) rfl (st_move rfl) ?_)
  clear hE a; intro a hE
  refine p_cons (s_still p11_4_12 hE (wn_some g11_4_10 rfl rfl) rfl (st_eql (b := true) rfl rfl (by decide)) ?_)
  clear hE a; intro a hE
  refine q0 p11_4_13 hE (st_pick rfl rfl) ?_
  clear hE a; intro a hE
  refine q0 p11_4_14 hE (st_move rfl) ?_
  clear hE a; intro a hE
  refine p_cons (s_still p11_4_15 hE (wn_some g11_4_14 rfl rfl) rfl (st_move rfl) ?_)
  clear hE a; intro a hE
  refine p_cons (s_row (xs := [(0, Operand.const (Value.int IntKind.i64 2)), (1, Operand.const (Value.int IntKind.i64 1)), (2, Operand.const (Value.int IntKind.i64 3))]) (vs := [(0, Value.int .i64 2), (1, Value.int .i64 1), (2, Value.int .i64 3)]) (cs := #[Value.int .i64 2, Value.int .i64 1, Value.int .i64 3]) p11_4_16 hE (wn_some g11_4_14 rfl rfl) rfl Try.underlying35 rfl (by kernel_rfl) ?_)
  clear hE a; intro g21 w22 z23 B_g21 hk a hE
  have n_g1_g21 : g1 ≠ g21 := ne_new B_g1 z23
  have n_gm4_g21 : gm4 ≠ g21 := ne_new B_gm4 z23
  have z_0_g21 := Nat.le_trans K_0.kept.1 z23
  have Nb_q18_g21 : ¬ OB A14 g21 := fun h => by have := (own_ob O_q18 h).2; omega
  replace B_g1 := kp_blk B_g1 hk (fun h => h)
  replace B_gm4 := kp_blk B_gm4 hk (fun h => h)
  replace O_q18 := own_keep O_q18 hk (fun _ _ h => h)
  replace K_0 := K_0.then_ hk (fun _ h => h.elim)
  clear hk
  have hsm := same_i A14 (some ⟨g21, 0, none⟩) c15 3 [2, 1, 3] w22 (by decide) (by have h := (own_told O_q18); rw [kF] at h; exact h) (C_blk (k := .i64) (l := [2, 1, 3]) (off := 0) B_g21 ⟨rfl, Nat.le_of_ble_eq_true rfl⟩ rfl)
  rw [← kF] at hsm
  skip
  refine p_cons (s_call (xs := [Operand.tmp 29, Operand.tmp 30]) (args := [Value.slice A14 ((fireO (0 + 5) ([(3, 5), (1, 5), (2, 4)])).length) c15, Value.slice (some ⟨g21, 0, none⟩) 3 3]) p11_4_17 hE (wn_some g11_4_14 rfl rfl) rfl rfl Try.func15 cl15 ((by have h := same_i A14 (some ⟨g21, 0, none⟩) c15 3 [2, 1, 3] _ (by decide) (by have h := (own_told O_q18); rw [kF] at h; exact h) (C_blk (k := .i64) (l := [2, 1, 3]) (off := 0) B_g21 ⟨rfl, Nat.le_of_ble_eq_true rfl⟩ rfl); rw [← show (fireO (0 + 5) [(3, 5), (1, 5), (2, 4)]).length = ([2, 1, 3] : List Int).length by rw [kF]] at h; exact h)) ?_)
  rintro e w24 ⟨rfl, hk⟩
  replace B_g1 := kp_blk B_g1 hk (fun h => h)
  replace B_gm4 := kp_blk B_gm4 hk (fun h => h)
  replace B_g21 := kp_blk B_g21 hk (fun h => h)
  replace O_q18 := own_keep O_q18 hk (fun _ _ h => h)
  replace K_0 := K_0.then_ hk (fun _ h => h.elim)
  refine ⟨_, rfl, ?_⟩
  clear hE a; intro a hE
  refine q0 p11_4_18 hE (st_pick rfl rfl) ?_
  clear hE a; intro a hE
  refine q0 p11_4_19 hE (st_move rfl) ?_
  clear hE a; intro a hE
  refine p_cons (s_call (xs := [Operand.tmp 1]) (args := [Value.pointer (some ⟨g1, 0, none⟩)]) p11_4_20 hE (wn_some g11_4_19 rfl rfl) rfl rfl Try.func17 cl17 (now_any g1 (0 + 5) (Value.map (some gm4)) _ B_g1) ?_)
  rintro e w25 ⟨rfl, hk⟩
  replace B_g1 := kp_blk B_g1 hk (fun h => h)
  replace B_gm4 := kp_blk B_gm4 hk (fun h => h)
  replace B_g21 := kp_blk B_g21 hk (fun h => h)
  replace O_q18 := own_keep O_q18 hk (fun _ _ h => h)
  replace K_0 := K_0.then_ hk (fun _ h => h.elim)
  refine ⟨_, rfl, ?_⟩
  clear hE a; intro a hE
  refine p_cons (s_still p11_4_21 hE (wn_some g11_4_19 rfl rfl) rfl (st_eql (b := true) rfl rfl (by decide)) ?_)
  clear hE a; intro a hE
  refine q0 p11_4_22 hE (st_pick rfl rfl) ?_
  clear hE a; intro a hE
  refine q0 p11_4_23 hE (st_assign rfl) ?_
  clear hE a; intro a hE
  refine p_nil ?_
  refine x_norm ?_
  refine wp_ret ?_
  refine ret_one (v := Value.bool true) rfl hE (.tmp rfl .nil) ?_
  exact ⟨rfl, K_0⟩
/-- How often a number is among the first j. -/
def cn (out : List Int) (x : Int) (j : Nat) : Int := (((out.take j).count x : Nat) : Int)
theorem cn_next {out : List Int} {x : Int} {j : Nat} (hj : j < out.length) : cn out x (j + 1) = cn out x j + (if rd out (j : Int) = x then 1 else 0) := by
  unfold cn rd
  rw [Int.toNat_natCast, List.take_add_one, List.getElem?_eq_getElem hj, List.getD_eq_getElem?_getD, List.getElem?_eq_getElem hj, List.count_append]
  simp only [Option.toList_some, Option.getD_some, List.count_singleton]
  by_cases h : out[j] = x <;> simp [h]
theorem cn_bnd (out : List Int) (x : Int) (j : Nat) : 0 ≤ cn out x j ∧ cn out x j ≤ j := by
  unfold cn
  have h1 := List.count_le_length (a := x) (l := out.take j)
  have h2 : (out.take j).length ≤ j := by rw [List.length_take]; omega
  omega
/-- What is left before tick u + 1. -/
def lft (l : LW) (u : Int) : LW := l.filter (fun p => decide (u < p.2))
theorem lft_next (l : LW) (u : Int) : (lft l u).filter (fun p => decide (u + 1 < p.2)) = lft l (u + 1) := by
  unfold lft
  rw [List.filter_filter]
  congr 1
  funext p
  by_cases h : u + 1 < p.2
  · rw [decide_eq_true h, decide_eq_true (by omega)]; rfl
  · rw [decide_eq_false h]; rfl
theorem lft_nodup {l : LW} (hn : (l.map (·.1)).Nodup) (u : Int) : ((lft l u).map (·.1)).Nodup := List.Pairwise.sublist ((List.filter_sublist).map _) hn
theorem lft_zero {l : LW} (h : ∀ p ∈ l, 1 ≤ p.2) : lft l 0 = l := List.filter_eq_self.2 (fun p hp => by have := h p hp; simp; omega)
/-- Who fires at a tick. -/
theorem fires {l : LW} (hn : (l.map (·.1)).Nodup) (u x : Int) : (fireO (u + 1) (lft l u)).count x = if getI l x = some (u + 1) then 1 else 0 := by
  obtain ⟨h1, _, _⟩ := fire_spec (u + 1) (lft l u) (lft_nodup hn u)
  unfold fireO
  rw [(h1.map (·.1)).count_eq]
  have hs : (((lft l u).filter (fun p => decide (p.2 ≤ u + 1))).map (·.1)).Nodup := List.Pairwise.sublist ((List.filter_sublist).map _) (lft_nodup hn u)
  have hm : x ∈ ((lft l u).filter (fun p => decide (p.2 ≤ u + 1))).map (·.1) ↔ getI l x = some (u + 1) := by
    rw [List.mem_map]
    constructor
    · rintro ⟨p, hp, rfl⟩
      rw [List.mem_filter] at hp
      obtain ⟨hp1, hp2⟩ := hp
      unfold lft at hp1
      rw [List.mem_filter] at hp1
      have a := of_decide_eq_true hp2
      have b := of_decide_eq_true hp1.2
      have : p.2 = u + 1 := by omega
      rw [← this]
      exact Mi.getI_of_mem hn hp1.1
    · intro h
      refine ⟨_, List.mem_filter.2 ⟨List.mem_filter.2 ⟨Mi.getI_mem h, ?_⟩, ?_⟩, rfl⟩
      · simp; omega
      · simp
  rw [hs.count]
  by_cases h : getI l x = some (u + 1)
  · rw [if_pos h, if_pos (hm.2 h)]
  · rw [if_neg h, if_neg (fun q => h (hm.1 q))]
theorem fireO_len {now : Int} {l : LW} (hn : (l.map (·.1)).Nodup) : (fireO now l).length ≤ l.length := by
  have := (fire_spec now l hn).1.length_eq
  unfold fireO
  rw [List.length_map, this]
  exact List.length_filter_le _ _
theorem lft_len (l : LW) (u : Int) : (lft l u).length ≤ l.length := List.length_filter_le _ _
theorem R3_11_l : List.range (regOf Try.f3 11).size = [0] := by kernel_rfl
theorem R3_12_l : List.range (regOf Try.f3 12).size = [0, 1] := by kernel_rfl
theorem R3_14_l : List.range (regOf Try.f3 14).size = [0, 1, 2] := by kernel_rfl
theorem R3_15_l : List.range (regOf Try.f3 15).size = [0] := by kernel_rfl
theorem R3_16_l : List.range (regOf Try.f3 16).size = [0] := by kernel_rfl
theorem R3_17_l : List.range (regOf Try.f3 17).size = [0, 1, 2, 3] := by kernel_rfl
theorem R3_19_l : List.range (regOf Try.f3 19).size = [0, 1, 2, 3, 4, 5] := by kernel_rfl
theorem R3_20_l : List.range (regOf Try.f3 20).size = [0, 1, 2] := by kernel_rfl
theorem R3_18_l : List.range (regOf Try.f3 18).size = [0, 1, 2] := by kernel_rfl
theorem R3_21_l : List.range (regOf Try.f3 21).size = [0, 1, 2, 3, 4, 5, 6, 7, 8, 9, 10, 11, 12, 13] := by kernel_rfl
theorem R3_22_l : List.range (regOf Try.f3 22).size = [0] := by kernel_rfl
theorem R3_13_l : List.range (regOf Try.f3 13).size = [0, 1, 2] := by kernel_rfl
theorem R3_23_l : List.range (regOf Try.f3 23).size = [0, 1] := by kernel_rfl
theorem p3_11_0 : pj (regOf Try.f3 11) 0 = some (some 11, .assign (.const (.int .i64 1)), 3, none) := by kernel_rfl
theorem p3_12_0 : pj (regOf Try.f3 12) 0 = some (some 62, .move (.tmp 11), 3, none) := by kernel_rfl
theorem p3_12_1 : pj (regOf Try.f3 12) 1 = some (some 63, .binOp .leq 3 (.tmp 62) (.const (.int .i64 210)) 3, 4, none) := by kernel_rfl
theorem p3_14_0 : pj (regOf Try.f3 14) 0 = some (some 66, .move (.tmp 9), 24, none) := by kernel_rfl
theorem p3_14_1 : pj (regOf Try.f3 14) 1 = some (some 67, .call { callee := .value (.func 10), args := #[.tmp 66], argTypes := #[24] }, 35, none) := by kernel_rfl
theorem cl10 : callable Try.f10 = true := by kernel_rfl
theorem p3_14_2 : pj (regOf Try.f3 14) 2 = some (some 12, .assign (.tmp 67), 35, none) := by kernel_rfl
theorem p3_15_0 : pj (regOf Try.f3 15) 0 = some (some 13, .assign (.const (.int .i64 0)), 3, none) := by kernel_rfl
theorem p3_16_0 : pj (regOf Try.f3 16) 0 = some (some 14, .assign (.const (.int .i64 0)), 3, none) := by kernel_rfl
theorem p3_17_0 : pj (regOf Try.f3 17) 0 = some (some 68, .move (.tmp 14), 3, none) := by kernel_rfl
theorem p3_17_1 : pj (regOf Try.f3 17) 1 = some (some 69, .move (.tmp 12), 35, none) := by kernel_rfl
theorem p3_17_2 : pj (regOf Try.f3 17) 2 = some (some 70, .call { callee := .builtin .len, args := #[.tmp 69], argTypes := #[35] }, 3, none) := by kernel_rfl
theorem p3_17_3 : pj (regOf Try.f3 17) 3 = some (some 71, .binOp .lss 3 (.tmp 68) (.tmp 70) 3, 4, none) := by kernel_rfl
theorem p3_19_0 : pj (regOf Try.f3 19) 0 = some (some 74, .move (.tmp 12), 35, none) := by kernel_rfl
theorem p3_19_1 : pj (regOf Try.f3 19) 1 = some (some 75, .move (.tmp 14), 3, none) := by kernel_rfl
theorem p3_19_2 : pj (regOf Try.f3 19) 2 = some (some 76, .indexAddr 35 (.tmp 74) (.tmp 75), 0, none) := by kernel_rfl
theorem p3_19_3 : pj (regOf Try.f3 19) 3 = some (some 77, .load 3 (.tmp 76), 3, none) := by kernel_rfl
theorem p3_19_4 : pj (regOf Try.f3 19) 4 = some (some 78, .move (.tmp 0), 3, none) := by kernel_rfl
theorem p3_19_5 : pj (regOf Try.f3 19) 5 = some (some 79, .binOp .eql 3 (.tmp 77) (.tmp 78) 3, 4, none) := by kernel_rfl
theorem p3_20_0 : pj (regOf Try.f3 20) 0 = some (some 80, .move (.tmp 13), 3, none) := by kernel_rfl
theorem p3_20_1 : pj (regOf Try.f3 20) 1 = some (some 81, .binOp .add 3 (.tmp 80) (.const (.int .i64 1)) 3, 3, none) := by kernel_rfl
theorem p3_20_2 : pj (regOf Try.f3 20) 2 = some (some 13, .assign (.tmp 81), 3, none) := by kernel_rfl
theorem p3_18_0 : pj (regOf Try.f3 18) 0 = some (some 72, .move (.tmp 14), 3, none) := by kernel_rfl
theorem p3_18_1 : pj (regOf Try.f3 18) 1 = some (some 73, .binOp .add 3 (.tmp 72) (.const (.int .i64 1)) 3, 3, none) := by kernel_rfl
theorem p3_18_2 : pj (regOf Try.f3 18) 2 = some (some 14, .assign (.tmp 73), 3, none) := by kernel_rfl
theorem p3_21_0 : pj (regOf Try.f3 21) 0 = some (some 82, .move (.tmp 13), 3, none) := by kernel_rfl
theorem p3_21_1 : pj (regOf Try.f3 21) 1 = some (some 83, .binOp .gtr 3 (.tmp 82) (.const (.int .i64 1)) 3, 4, none) := by kernel_rfl
theorem p3_21_2 : pj (regOf Try.f3 21) 2 = some (some 84, .move (.tmp 83), 4, none) := by kernel_rfl
theorem p3_21_3 : pj (regOf Try.f3 21) 3 = some (some 85, .move (.tmp 13), 3, some (2, false)) := by kernel_rfl
theorem g3_21_2 : dstOf (regOf Try.f3 21) 2 = some 84 := by kernel_rfl
theorem p3_21_4 : pj (regOf Try.f3 21) 4 = some (some 86, .binOp .eql 3 (.tmp 85) (.const (.int .i64 1)) 3, 4, some (2, false)) := by kernel_rfl
theorem p3_21_5 : pj (regOf Try.f3 21) 5 = some (some 87, .move (.tmp 11), 3, some (2, false)) := by kernel_rfl
theorem p3_21_6 : pj (regOf Try.f3 21) 6 = some (some 88, .move (.tmp 1), 3, some (2, false)) := by kernel_rfl
theorem p3_21_7 : pj (regOf Try.f3 21) 7 = some (some 89, .binOp .eql 3 (.tmp 87) (.tmp 88) 3, 4, some (2, false)) := by kernel_rfl
theorem p3_21_8 : pj (regOf Try.f3 21) 8 = some (some 90, .move (.tmp 89), 4, some (2, false)) := by kernel_rfl
theorem p3_21_9 : pj (regOf Try.f3 21) 9 = some (some 91, .move (.tmp 3), 4, some (8, true)) := by kernel_rfl
theorem g3_21_8 : dstOf (regOf Try.f3 21) 8 = some 90 := by kernel_rfl
theorem p3_21_10 : pj (regOf Try.f3 21) 10 = some (some 92, .unOp .not 4 (.tmp 91), 4, some (8, true)) := by kernel_rfl
theorem p3_21_11 : pj (regOf Try.f3 21) 11 = some (some 93, .pick (.tmp 90) (.tmp 92) (.const (.bool false)), 4, some (2, false)) := by kernel_rfl
theorem p3_21_12 : pj (regOf Try.f3 21) 12 = some (some 94, .binOp .neq 4 (.tmp 86) (.tmp 93) 4, 4, some (2, false)) := by kernel_rfl
theorem p3_21_13 : pj (regOf Try.f3 21) 13 = some (some 95, .pick (.tmp 84) (.const (.bool true)) (.tmp 94), 4, none) := by kernel_rfl
theorem p3_13_0 : pj (regOf Try.f3 13) 0 = some (some 64, .move (.tmp 11), 3, none) := by kernel_rfl
theorem p3_13_1 : pj (regOf Try.f3 13) 1 = some (some 65, .binOp .add 3 (.tmp 64) (.const (.int .i64 1)) 3, 3, none) := by kernel_rfl
theorem p3_13_2 : pj (regOf Try.f3 13) 2 = some (some 11, .assign (.tmp 65), 3, none) := by kernel_rfl
theorem p3_23_0 : pj (regOf Try.f3 23) 0 = some (some 96, .call { callee := .value (.func 11), args := #[], argTypes := #[] }, 4, none) := by kernel_rfl
theorem cl11 : callable Try.f11 = true := by kernel_rfl
theorem p3_23_1 : pj (regOf Try.f3 23) 1 = some (some 8, .assign (.tmp 96), 4, none) := by kernel_rfl
set_option maxHeartbeats 4000000 in
theorem once11t {R : Ending → World → Prop} (w W : World) (gW gm ck : Nat) (es : Array MapEntry) (l : LW) (B_gW : W.heap[gW]? = some (.cells #[.int .i64 0, .map (some gm)] 29 (0, 0))) (B_gm : W.heap[gm]? = some (.map es ck)) (MF : MapI (Value.int .i64) es ck l) (n_gW_gm : gW ≠ gm) (z_0_gW : w.heap.size ≤ gW) (z_0_gm : w.heap.size ≤ gm) (K_0 : Kp w W (fun _ => False)) (idv nin : Int) (hll : l.length ≤ 200) (hpos : ∀ p ∈ l, 1 ≤ p.2) (hget : getI l idv = none) (hR : ∀ W', Kp w W' (fun _ => False) → R (.returned (.bool true)) W') (a : Act) (hE : En 97 a [(0, Value.int .i64 idv), (1, Value.int .i64 nin), (3, Value.bool true), (9, Value.pointer (some ⟨gW, 0, none⟩))]) : Code.wp Try.prog (.seq (.seq (.region 11 (regOf Try.f3 11) false) (.block 2 (.loop (.seq (.seq (.region 12 (regOf Try.f3 12) false) (.cond (Operand.tmp 63) (.skip) (.exit 2))) (.seq (.block 3 (.seq (.region 14 (regOf Try.f3 14) false) (.seq (.region 15 (regOf Try.f3 15) false) (.seq (.seq (.region 16 (regOf Try.f3 16) false) (.block 4 (.loop (.seq (.seq (.region 17 (regOf Try.f3 17) false) (.cond (Operand.tmp 71) (.skip) (.exit 4))) (.seq (.block 5 (.seq (.region 19 (regOf Try.f3 19) false) (.cond (Operand.tmp 79) (.region 20 (regOf Try.f3 20) false) (.skip)))) (.region 18 (regOf Try.f3 18) false)))))) (.seq (.region 21 (regOf Try.f3 21) false) (.cond (Operand.tmp 95) (.seq (.region 22 (regOf Try.f3 22) false) (.ret)) (.skip))))))) (.region 13 (regOf Try.f3 13) false)))))) (.seq (.region 23 (regOf Try.f3 23) false) (.ret))) (bodyPost Try.prog Try.f3 R) a W := by
  have hN := MF.nodup
  refine wp_seq ?_
  refine c_reg R3_11_l ?_
  refine q0 p3_11_0 hE (st_assign rfl) ?_
  clear hE a; intro a hE
  refine p_nil ?_
  refine x_norm ?_
  refine wp_block ?_
  refine c_loop (α := Nat) (fun u a W => ∃ (es9 : Array MapEntry), ∃ (ck9 : Nat), En 97 a [(0, Value.int .i64 idv), (1, Value.int .i64 nin), (3, Value.bool true), (9, Value.pointer (some ⟨gW, 0, none⟩)), (11, Value.int .i64 ((u : Int) + 1))] ∧ MapI (Value.int .i64) es9 ck9 (lft l (u : Int)) ∧ u ≤ 210 ∧ W.heap[gW]? = some (.cells #[Value.int .i64 (u : Int), Value.map (some gm)] 29 (0, 0)) ∧ W.heap[gm]? = some (.map es9 ck9) ∧ Kp w W (fun _ => False)) (fun u => 210 - u) (0) ?_ ?_
  ·
    exact ⟨es, ck, En.sub hE ⟨rfl, rfl, rfl, rfl, rfl, trivial⟩, (by rw [show ((0 : Nat) : Int) = 0 from rfl, lft_zero hpos]; exact MF), Nat.zero_le _, B_gW, B_gm, K_0⟩
  ·
    clear hE a
    rintro u a w1 ⟨es9, ck9, hE, MF9, hu9, B_gW, B_gm, K_0⟩
    refine wp_seq ?_
    rcases Decidable.em ((u : Int) + 1 ≤ 210) with hK1 | hK1
    ·
      refine c_reg R3_12_l ?_
      refine q0 p3_12_0 hE (st_move rfl) ?_
      clear hE a; intro a hE
      refine q0 p3_12_1 hE (st_leq (b := true) rfl rfl (decide_eq_true hK1)) ?_
      clear hE a; intro a hE
      refine p_nil ?_
      refine x_norm ?_
      refine c_cond (t := true) hE rfl ?_
      refine wp_skip ?_
      refine x_norm ?_
      refine wp_seq ?_
      refine wp_block ?_
      refine c_reg R3_14_l ?_
      refine q0 p3_14_0 hE (st_move rfl) ?_
      clear hE a; intro a hE
      have hnb_gW := blk_lt B_gW
      have hnb_gm := blk_lt B_gm
      have hnz_0 := K_0.kept.1
      refine p_cons (s_call (xs := [Operand.tmp 66]) (args := [Value.pointer (some ⟨gW, 0, none⟩)]) p3_14_1 hE wn_none rfl rfl Try.func10 cl10 (tick_any gW gm ck9 es9 (lft l (u : Int)) (u : Int)  _ ⟨by omega, by omega⟩ (by have := lft_len l (u : Int); omega) B_gW B_gm MF9 n_gW_gm) ?_)
      rintro e w8 ⟨A2, c3, es4, ck5, rfl, O_q6, MF7, B_gm', B_gW', hk⟩
      replace K_0 := K_0.then_ hk (fun k h => h.elim (fun h => by rw [show k = gW from h]; exact Or.inr z_0_gW) (fun h => by rw [show k = gm from h]; exact Or.inr z_0_gm))
      replace B_gm := B_gm'
      replace B_gW := B_gW'
      have Nb_q6_gW : ¬ OB A2 gW := fun h => by have := (own_ob O_q6 h).1; have := hnb_gW; omega
      have Nb_q6_gm : ¬ OB A2 gm := fun h => by have := (own_ob O_q6 h).1; have := hnb_gm; omega
      have Z_0_q6 : ∀ k, OB A2 k → (fun _ => False) k ∨ w.heap.size ≤ k := fun k h => .inr (by have := (own_ob O_q6 h).1; have := hnz_0; omega)
      replace O_q6 := own_lower O_q6 hnz_0
      refine ⟨_, rfl, ?_⟩
      clear hE a; intro a hE
      refine q0 p3_14_2 hE (st_assign rfl) ?_
      clear hE a; intro a hE
      refine p_nil ?_
      refine x_norm ?_
      refine c_reg R3_15_l ?_
      refine q0 p3_15_0 hE (st_assign rfl) ?_
      clear hE a; intro a hE
      refine p_nil ?_
      refine x_norm ?_
      refine wp_seq ?_
      refine c_reg R3_16_l ?_
      refine q0 p3_16_0 hE (st_assign rfl) ?_
      clear hE a; intro a hE
      refine p_nil ?_
      refine x_norm ?_
      refine wp_block ?_
      refine c_loop (α := Nat) (fun j a W => En 97 a [(0, Value.int .i64 idv), (1, Value.int .i64 nin), (3, Value.bool true), (9, Value.pointer (some ⟨gW, 0, none⟩)), (11, Value.int .i64 ((u : Int) + 1)), (63, Value.bool true), (12, Value.slice A2 ((fireO ((u : Int) + 1) (lft l (u : Int))).length) c3), (14, Value.int .i64 (j : Int)), (13, Value.int .i64 (cn (fireO ((u : Int) + 1) (lft l (u : Int))) idv j))] ∧ j ≤ (fireO ((u : Int) + 1) (lft l (u : Int))).length ∧ W.heap[gW]? = some (.cells #[Value.int .i64 ((u : Int) + 1), Value.map (some gm)] 29 (0, 0)) ∧ W.heap[gm]? = some (.map es4 ck5) ∧ W.ownsRow w.heap.size 3 1 (.slice A2 ((fireO ((u : Int) + 1) (lft l (u : Int))).length) c3) ((fireO ((u : Int) + 1) (lft l (u : Int))).length) (encs (Value.int .i64) (fireO ((u : Int) + 1) (lft l (u : Int)))) ∧ ¬ OB A2 gW ∧ ¬ OB A2 gm ∧ (∀ k, OB A2 k → (fun _ => False) k ∨ w.heap.size ≤ k) ∧ Kp w W (fun _ => False)) (fun j => (fireO ((u : Int) + 1) (lft l (u : Int))).length - j) (0) ?_ ?_
      ·
        exact ⟨En.sub hE ⟨rfl, rfl, rfl, rfl, rfl, rfl, rfl, rfl, (by rfl), trivial⟩, Nat.zero_le _, B_gW, B_gm, O_q6, Nb_q6_gW, Nb_q6_gm, Z_0_q6, K_0⟩
      ·
        clear hE a
        rintro j a w9 ⟨hE, hj9, B_gW, B_gm, O_q6, Nb_q6_gW, Nb_q6_gm, Z_0_q6, K_0⟩
        refine wp_seq ?_
        have hOl := fireO_len (now := (u : Int) + 1) (lft_nodup hN (u : Int))
        have hOl2 := lft_len l (u : Int)
        rcases Decidable.em ((j : Int) < ((fireO ((u : Int) + 1) (lft l (u : Int))).length : Int)) with hK2 | hK2
        ·
          refine c_reg R3_17_l ?_
          refine q0 p3_17_0 hE (st_move rfl) ?_
          clear hE a; intro a hE
          refine q0 p3_17_1 hE (st_move rfl) ?_
          clear hE a; intro a hE
          refine q0 p3_17_2 hE (st_len Try.underlying35 rfl) ?_
          clear hE a; intro a hE
          refine q0 p3_17_3 hE (st_lss (b := true) rfl rfl (decide_eq_true hK2)) ?_
          clear hE a; intro a hE
          refine p_nil ?_
          refine x_norm ?_
          refine c_cond (t := true) hE rfl ?_
          refine wp_skip ?_
          refine x_norm ?_
          refine wp_seq ?_
          refine wp_block ?_
          have hcb := cn_bnd (fireO ((u : Int) + 1) (lft l (u : Int))) idv j
          rcases Decidable.em (rd (fireO ((u : Int) + 1) (lft l (u : Int))) (j : Int) = idv) with hHIT | hHIT
          ·
            refine c_reg R3_19_l ?_
            refine q0 p3_19_0 hE (st_move rfl) ?_
            clear hE a; intro a hE
            refine q0 p3_19_1 hE (st_move rfl) ?_
            clear hE a; intro a hE
            refine q0 p3_19_2 hE (st_indexAddrC (i := j) Try.underlying35 tS3 (own_told O_q6) rfl rfl (by omega)) ?_
            clear hE a; intro a hE
            refine q0 (v := Value.int .i64 (rd (fireO ((u : Int) + 1) (lft l (u : Int))) (j : Int))) p3_19_3 hE (st_loadC (i := j) tA3 (own_told O_q6) (by omega) rfl) ?_
            clear hE a; intro a hE
            refine q0 p3_19_4 hE (st_move rfl) ?_
            clear hE a; intro a hE
            refine q0 p3_19_5 hE (st_eql (b := true) rfl rfl (decide_eq_true hHIT)) ?_
            clear hE a; intro a hE
            refine p_nil ?_
            refine x_norm ?_
            refine c_cond (t := true) hE rfl ?_
            refine c_regL R3_20_l ?_
            refine q0 p3_20_0 hE (st_move rfl) ?_
            clear hE a; intro a hE
            refine q0 p3_20_1 hE (st_add (z := (cn (fireO ((u : Int) + 1) (lft l (u : Int))) idv j) + 1) rfl rfl (wr_i64 _ (by omega) (by omega))) ?_
            clear hE a; intro a hE
            refine q0 p3_20_2 hE (st_assign rfl) ?_
            clear hE a; intro a hE
            refine p_nil ?_
            refine x_normB ?_
            refine x_norm ?_
            refine c_regL R3_18_l ?_
            refine q0 p3_18_0 hE (st_move rfl) ?_
            clear hE a; intro a hE
            refine q0 p3_18_1 hE (st_add (z := (j : Int) + 1) rfl rfl (wr_i64 _ (by omega) (by omega))) ?_
            clear hE a; intro a hE
            refine q0 p3_18_2 hE (st_assign rfl) ?_
            clear hE a; intro a hE
            refine p_nil ?_
            refine x_norm ?_
            have hcn9 := cn_next (x := idv) (show j < (fireO ((u : Int) + 1) (lft l (u : Int))).length by omega)
            rw [if_pos hHIT] at hcn9
            exact ⟨j + 1, by omega, En.sub hE ⟨rfl, rfl, rfl, rfl, rfl, rfl, rfl, rfl, (by rw [hcn9]; rfl), trivial⟩, by omega, B_gW, B_gm, O_q6, Nb_q6_gW, Nb_q6_gm, Z_0_q6, K_0⟩
          ·
            refine c_reg R3_19_l ?_
            refine q0 p3_19_0 hE (st_move rfl) ?_
            clear hE a; intro a hE
            refine q0 p3_19_1 hE (st_move rfl) ?_
            clear hE a; intro a hE
            refine q0 p3_19_2 hE (st_indexAddrC (i := j) Try.underlying35 tS3 (own_told O_q6) rfl rfl (by omega)) ?_
            clear hE a; intro a hE
            refine q0 (v := Value.int .i64 (rd (fireO ((u : Int) + 1) (lft l (u : Int))) (j : Int))) p3_19_3 hE (st_loadC (i := j) tA3 (own_told O_q6) (by omega) rfl) ?_
            clear hE a; intro a hE
            refine q0 p3_19_4 hE (st_move rfl) ?_
            clear hE a; intro a hE
            refine q0 p3_19_5 hE (st_eql (b := false) rfl rfl (decide_eq_false hHIT)) ?_
            clear hE a; intro a hE
            refine p_nil ?_
            refine x_norm ?_
            refine c_cond (t := false) hE rfl ?_
            refine wp_skip ?_
            refine x_normB ?_
            refine x_norm ?_
            refine c_regL R3_18_l ?_
            refine q0 p3_18_0 hE (st_move rfl) ?_
            clear hE a; intro a hE
            refine q0 p3_18_1 hE (st_add (z := (j : Int) + 1) rfl rfl (wr_i64 _ (by omega) (by omega))) ?_
            clear hE a; intro a hE
            refine q0 p3_18_2 hE (st_assign rfl) ?_
            clear hE a; intro a hE
            refine p_nil ?_
            refine x_norm ?_
            have hcn9 := cn_next (x := idv) (show j < (fireO ((u : Int) + 1) (lft l (u : Int))).length by omega)
            rw [if_neg hHIT, Int.add_zero] at hcn9
            exact ⟨j + 1, by omega, En.sub hE ⟨rfl, rfl, rfl, rfl, rfl, rfl, rfl, rfl, (by rw [hcn9]; rfl), trivial⟩, by omega, B_gW, B_gm, O_q6, Nb_q6_gW, Nb_q6_gm, Z_0_q6, K_0⟩
        ·
          refine c_reg R3_17_l ?_
          refine q0 p3_17_0 hE (st_move rfl) ?_
          clear hE a; intro a hE
          refine q0 p3_17_1 hE (st_move rfl) ?_
          clear hE a; intro a hE
          refine q0 p3_17_2 hE (st_len Try.underlying35 rfl) ?_
          clear hE a; intro a hE
          refine q0 p3_17_3 hE (st_lss (b := false) rfl rfl (decide_eq_false hK2)) ?_
          clear hE a; intro a hE
          refine p_nil ?_
          refine x_norm ?_
          refine c_cond (t := false) hE rfl ?_
          refine wp_exit ?_
          refine x_exit ?_
          refine x_exit ?_
          obtain rfl : j = (fireO ((u : Int) + 1) (lft l (u : Int))).length := by omega
          have hfc : cn (fireO ((u : Int) + 1) (lft l (u : Int))) idv (fireO ((u : Int) + 1) (lft l (u : Int))).length = if getI l idv = some ((u : Int) + 1) then 1 else 0 := by unfold cn; rw [List.take_length, fires hN]; split <;> rfl
          obtain ⟨fc, hfe⟩ : ∃ fc, cn (fireO ((u : Int) + 1) (lft l (u : Int))) idv (fireO ((u : Int) + 1) (lft l (u : Int))).length = fc := ⟨_, rfl⟩
          rw [hfe] at hE hfc
          refine x_in ?_
          refine x_norm ?_
          rcases Decidable.em ((u : Int) + 1 = nin) with hEQ | hEQ
          ·
            have hfv : fc = 0 := by rw [hfc, hget]; rw [if_neg (fun h => by cases h)]
            subst hfv
            refine c_reg R3_21_l ?_
            refine q0 p3_21_0 hE (st_move rfl) ?_
            clear hE a; intro a hE
            refine q0 p3_21_1 hE (st_gtr (b := false) rfl rfl (by decide)) ?_
            clear hE a; intro a hE
            refine q0 p3_21_2 hE (st_move rfl) ?_
            clear hE a; intro a hE
            refine p_cons (s_still p3_21_3 hE (wn_some g3_21_2 rfl rfl) rfl (st_move rfl) ?_)
            clear hE a; intro a hE
            refine p_cons (s_still p3_21_4 hE (wn_some g3_21_2 rfl rfl) rfl (st_eql (b := false) rfl rfl (by decide)) ?_)
            clear hE a; intro a hE
            refine p_cons (s_still p3_21_5 hE (wn_some g3_21_2 rfl rfl) rfl (st_move rfl) ?_)
            clear hE a; intro a hE
            refine p_cons (s_still p3_21_6 hE (wn_some g3_21_2 rfl rfl) rfl (st_move rfl) ?_)
            clear hE a; intro a hE
            refine p_cons (s_still p3_21_7 hE (wn_some g3_21_2 rfl rfl) rfl (st_eql (b := true) rfl rfl (decide_eq_true hEQ)) ?_)
            clear hE a; intro a hE
            refine p_cons (s_still p3_21_8 hE (wn_some g3_21_2 rfl rfl) rfl (st_move rfl) ?_)
            clear hE a; intro a hE
            refine p_cons (s_still p3_21_9 hE (wn_some g3_21_8 rfl rfl) rfl (st_move rfl) ?_)
            clear hE a; intro a hE
            refine p_cons (s_still p3_21_10 hE (wn_some g3_21_8 rfl rfl) rfl (st_not rfl rfl) ?_)
            clear hE a; intro a hE
            refine p_cons (s_still p3_21_11 hE (wn_some g3_21_2 rfl rfl) rfl (st_pick rfl rfl) ?_)
            clear hE a; intro a hE
            refine p_cons (s_still p3_21_12 hE (wn_some g3_21_2 rfl rfl) rfl (st_neqB (b := false) Try.underlying4 rfl rfl rfl) ?_)
            clear hE a; intro a hE
            refine q0 p3_21_13 hE (st_pick rfl rfl) ?_
            clear hE a; intro a hE
            refine p_nil ?_
            refine x_norm ?_
            refine c_cond (t := false) hE rfl ?_
            refine wp_skip ?_
            refine x_normB ?_
            refine x_norm ?_
            refine c_regL R3_13_l ?_
            refine q0 p3_13_0 hE (st_move rfl) ?_
            clear hE a; intro a hE
            refine q0 p3_13_1 hE (st_add (z := ((u : Int) + 1) + 1) rfl rfl (wr_i64 _ (by omega) (by omega))) ?_
            clear hE a; intro a hE
            refine q0 p3_13_2 hE (st_assign rfl) ?_
            clear hE a; intro a hE
            refine p_nil ?_
            refine x_norm ?_
            have hFS := (fire_spec ((u : Int) + 1) (lft l (u : Int)) (lft_nodup hN _)).2.2
            rw [lft_next] at hFS
            have MFe := MF7
            rw [hFS] at MFe
            exact ⟨u + 1, by omega, es4, ck5, En.sub hE ⟨rfl, rfl, rfl, rfl, rfl, trivial⟩, MFe, by omega, B_gW, B_gm, K_0⟩
          ·
            have hfv : fc = 0 := by rw [hfc, hget]; rw [if_neg (fun h => by cases h)]
            subst hfv
            refine c_reg R3_21_l ?_
            refine q0 p3_21_0 hE (st_move rfl) ?_
            clear hE a; intro a hE
            refine q0 p3_21_1 hE (st_gtr (b := false) rfl rfl (by decide)) ?_
            clear hE a; intro a hE
            refine q0 p3_21_2 hE (st_move rfl) ?_
            clear hE a; intro a hE
            refine p_cons (s_still p3_21_3 hE (wn_some g3_21_2 rfl rfl) rfl (st_move rfl) ?_)
            clear hE a; intro a hE
            refine p_cons (s_still p3_21_4 hE (wn_some g3_21_2 rfl rfl) rfl (st_eql (b := false) rfl rfl (by decide)) ?_)
            clear hE a; intro a hE
            refine p_cons (s_still p3_21_5 hE (wn_some g3_21_2 rfl rfl) rfl (st_move rfl) ?_)
            clear hE a; intro a hE
            refine p_cons (s_still p3_21_6 hE (wn_some g3_21_2 rfl rfl) rfl (st_move rfl) ?_)
            clear hE a; intro a hE
            refine p_cons (s_still p3_21_7 hE (wn_some g3_21_2 rfl rfl) rfl (st_eql (b := false) rfl rfl (decide_eq_false hEQ)) ?_)
            clear hE a; intro a hE
            refine p_cons (s_still p3_21_8 hE (wn_some g3_21_2 rfl rfl) rfl (st_move rfl) ?_)
            clear hE a; intro a hE
            refine p_cons (s_skip p3_21_9 hE (wn_some g3_21_8 rfl rfl) rfl ?_)
            clear hE a; intro a hE
            refine p_cons (s_skip p3_21_10 hE (wn_some g3_21_8 rfl rfl) rfl ?_)
            clear hE a; intro a hE
            refine p_cons (s_still p3_21_11 hE (wn_some g3_21_2 rfl rfl) rfl (st_pick rfl rfl) ?_)
            clear hE a; intro a hE
            refine p_cons (s_still p3_21_12 hE (wn_some g3_21_2 rfl rfl) rfl (st_neqB (b := false) Try.underlying4 rfl rfl rfl) ?_)
            clear hE a; intro a hE
            refine q0 p3_21_13 hE (st_pick rfl rfl) ?_
            clear hE a; intro a hE
            refine p_nil ?_
            refine x_norm ?_
            refine c_cond (t := false) hE rfl ?_
            refine wp_skip ?_
            refine x_normB ?_
            refine x_norm ?_
            refine c_regL R3_13_l ?_
            refine q0 p3_13_0 hE (st_move rfl) ?_
            clear hE a; intro a hE
            refine q0 p3_13_1 hE (st_add (z := ((u : Int) + 1) + 1) rfl rfl (wr_i64 _ (by omega) (by omega))) ?_
            clear hE a; intro a hE
            refine q0 p3_13_2 hE (st_assign rfl) ?_
            clear hE a; intro a hE
            refine p_nil ?_
            refine x_norm ?_
            have hFS := (fire_spec ((u : Int) + 1) (lft l (u : Int)) (lft_nodup hN _)).2.2
            rw [lft_next] at hFS
            have MFe := MF7
            rw [hFS] at MFe
            exact ⟨u + 1, by omega, es4, ck5, En.sub hE ⟨rfl, rfl, rfl, rfl, rfl, trivial⟩, MFe, by omega, B_gW, B_gm, K_0⟩
    ·
      refine c_reg R3_12_l ?_
      refine q0 p3_12_0 hE (st_move rfl) ?_
      clear hE a; intro a hE
      refine q0 p3_12_1 hE (st_leq (b := false) rfl rfl (decide_eq_false hK1)) ?_
      clear hE a; intro a hE
      refine p_nil ?_
      refine x_norm ?_
      refine c_cond (t := false) hE rfl ?_
      refine wp_exit ?_
      refine x_exit ?_
      refine x_exit ?_
      refine x_in ?_
      refine x_norm ?_
      refine c_reg R3_23_l ?_
      refine p_cons (s_call (xs := []) (args := []) p3_23_0 hE wn_none rfl rfl Try.func11 cl11 (kn10  _) ?_)
      rintro e w10 ⟨rfl, hk⟩
      replace B_gW := kp_blk B_gW hk (fun h => h)
      replace B_gm := kp_blk B_gm hk (fun h => h)
      replace K_0 := K_0.then_ hk (fun _ h => h.elim)
      refine ⟨_, rfl, ?_⟩
      clear hE a; intro a hE
      refine q0 p3_23_1 hE (st_assign rfl) ?_
      clear hE a; intro a hE
      refine p_nil ?_
      refine x_norm ?_
      refine wp_ret ?_
      refine ret_one (v := Value.bool true) rfl hE (.tmp rfl .nil) ?_
      exact hR _ K_0

set_option maxHeartbeats 4000000 in
theorem once11f {R : Ending → World → Prop} (w W : World) (gW gm ck : Nat) (es : Array MapEntry) (l : LW) (B_gW : W.heap[gW]? = some (.cells #[.int .i64 0, .map (some gm)] 29 (0, 0))) (B_gm : W.heap[gm]? = some (.map es ck)) (MF : MapI (Value.int .i64) es ck l) (n_gW_gm : gW ≠ gm) (z_0_gW : w.heap.size ≤ gW) (z_0_gm : w.heap.size ≤ gm) (K_0 : Kp w W (fun _ => False)) (idv nin : Int) (hll : l.length ≤ 200) (hpos : ∀ p ∈ l, 1 ≤ p.2) (hget : getI l idv = some nin) (hR : ∀ W', Kp w W' (fun _ => False) → R (.returned (.bool true)) W') (a : Act) (hE : En 97 a [(0, Value.int .i64 idv), (1, Value.int .i64 nin), (3, Value.bool false), (9, Value.pointer (some ⟨gW, 0, none⟩))]) : Code.wp Try.prog (.seq (.seq (.region 11 (regOf Try.f3 11) false) (.block 2 (.loop (.seq (.seq (.region 12 (regOf Try.f3 12) false) (.cond (Operand.tmp 63) (.skip) (.exit 2))) (.seq (.block 3 (.seq (.region 14 (regOf Try.f3 14) false) (.seq (.region 15 (regOf Try.f3 15) false) (.seq (.seq (.region 16 (regOf Try.f3 16) false) (.block 4 (.loop (.seq (.seq (.region 17 (regOf Try.f3 17) false) (.cond (Operand.tmp 71) (.skip) (.exit 4))) (.seq (.block 5 (.seq (.region 19 (regOf Try.f3 19) false) (.cond (Operand.tmp 79) (.region 20 (regOf Try.f3 20) false) (.skip)))) (.region 18 (regOf Try.f3 18) false)))))) (.seq (.region 21 (regOf Try.f3 21) false) (.cond (Operand.tmp 95) (.seq (.region 22 (regOf Try.f3 22) false) (.ret)) (.skip))))))) (.region 13 (regOf Try.f3 13) false)))))) (.seq (.region 23 (regOf Try.f3 23) false) (.ret))) (bodyPost Try.prog Try.f3 R) a W := by
  have hN := MF.nodup
  refine wp_seq ?_
  refine c_reg R3_11_l ?_
  refine q0 p3_11_0 hE (st_assign rfl) ?_
  clear hE a; intro a hE
  refine p_nil ?_
  refine x_norm ?_
  refine wp_block ?_
  refine c_loop (α := Nat) (fun u a W => ∃ (es9 : Array MapEntry), ∃ (ck9 : Nat), En 97 a [(0, Value.int .i64 idv), (1, Value.int .i64 nin), (3, Value.bool false), (9, Value.pointer (some ⟨gW, 0, none⟩)), (11, Value.int .i64 ((u : Int) + 1))] ∧ MapI (Value.int .i64) es9 ck9 (lft l (u : Int)) ∧ u ≤ 210 ∧ W.heap[gW]? = some (.cells #[Value.int .i64 (u : Int), Value.map (some gm)] 29 (0, 0)) ∧ W.heap[gm]? = some (.map es9 ck9) ∧ Kp w W (fun _ => False)) (fun u => 210 - u) (0) ?_ ?_
  ·
    exact ⟨es, ck, En.sub hE ⟨rfl, rfl, rfl, rfl, rfl, trivial⟩, (by rw [show ((0 : Nat) : Int) = 0 from rfl, lft_zero hpos]; exact MF), Nat.zero_le _, B_gW, B_gm, K_0⟩
  ·
    clear hE a
    rintro u a w1 ⟨es9, ck9, hE, MF9, hu9, B_gW, B_gm, K_0⟩
    refine wp_seq ?_
    rcases Decidable.em ((u : Int) + 1 ≤ 210) with hK1 | hK1
    ·
      refine c_reg R3_12_l ?_
      refine q0 p3_12_0 hE (st_move rfl) ?_
      clear hE a; intro a hE
      refine q0 p3_12_1 hE (st_leq (b := true) rfl rfl (decide_eq_true hK1)) ?_
      clear hE a; intro a hE
      refine p_nil ?_
      refine x_norm ?_
      refine c_cond (t := true) hE rfl ?_
      refine wp_skip ?_
      refine x_norm ?_
      refine wp_seq ?_
      refine wp_block ?_
      refine c_reg R3_14_l ?_
      refine q0 p3_14_0 hE (st_move rfl) ?_
      clear hE a; intro a hE
      have hnb_gW := blk_lt B_gW
      have hnb_gm := blk_lt B_gm
      have hnz_0 := K_0.kept.1
      refine p_cons (s_call (xs := [Operand.tmp 66]) (args := [Value.pointer (some ⟨gW, 0, none⟩)]) p3_14_1 hE wn_none rfl rfl Try.func10 cl10 (tick_any gW gm ck9 es9 (lft l (u : Int)) (u : Int)  _ ⟨by omega, by omega⟩ (by have := lft_len l (u : Int); omega) B_gW B_gm MF9 n_gW_gm) ?_)
      rintro e w8 ⟨A2, c3, es4, ck5, rfl, O_q6, MF7, B_gm', B_gW', hk⟩
      replace K_0 := K_0.then_ hk (fun k h => h.elim (fun h => by rw [show k = gW from h]; exact Or.inr z_0_gW) (fun h => by rw [show k = gm from h]; exact Or.inr z_0_gm))
      replace B_gm := B_gm'
      replace B_gW := B_gW'
      have Nb_q6_gW : ¬ OB A2 gW := fun h => by have := (own_ob O_q6 h).1; have := hnb_gW; omega
      have Nb_q6_gm : ¬ OB A2 gm := fun h => by have := (own_ob O_q6 h).1; have := hnb_gm; omega
      have Z_0_q6 : ∀ k, OB A2 k → (fun _ => False) k ∨ w.heap.size ≤ k := fun k h => .inr (by have := (own_ob O_q6 h).1; have := hnz_0; omega)
      replace O_q6 := own_lower O_q6 hnz_0
      refine ⟨_, rfl, ?_⟩
      clear hE a; intro a hE
      refine q0 p3_14_2 hE (st_assign rfl) ?_
      clear hE a; intro a hE
      refine p_nil ?_
      refine x_norm ?_
      refine c_reg R3_15_l ?_
      refine q0 p3_15_0 hE (st_assign rfl) ?_
      clear hE a; intro a hE
      refine p_nil ?_
      refine x_norm ?_
      refine wp_seq ?_
      refine c_reg R3_16_l ?_
      refine q0 p3_16_0 hE (st_assign rfl) ?_
      clear hE a; intro a hE
      refine p_nil ?_
      refine x_norm ?_
      refine wp_block ?_
      refine c_loop (α := Nat) (fun j a W => En 97 a [(0, Value.int .i64 idv), (1, Value.int .i64 nin), (3, Value.bool false), (9, Value.pointer (some ⟨gW, 0, none⟩)), (11, Value.int .i64 ((u : Int) + 1)), (63, Value.bool true), (12, Value.slice A2 ((fireO ((u : Int) + 1) (lft l (u : Int))).length) c3), (14, Value.int .i64 (j : Int)), (13, Value.int .i64 (cn (fireO ((u : Int) + 1) (lft l (u : Int))) idv j))] ∧ j ≤ (fireO ((u : Int) + 1) (lft l (u : Int))).length ∧ W.heap[gW]? = some (.cells #[Value.int .i64 ((u : Int) + 1), Value.map (some gm)] 29 (0, 0)) ∧ W.heap[gm]? = some (.map es4 ck5) ∧ W.ownsRow w.heap.size 3 1 (.slice A2 ((fireO ((u : Int) + 1) (lft l (u : Int))).length) c3) ((fireO ((u : Int) + 1) (lft l (u : Int))).length) (encs (Value.int .i64) (fireO ((u : Int) + 1) (lft l (u : Int)))) ∧ ¬ OB A2 gW ∧ ¬ OB A2 gm ∧ (∀ k, OB A2 k → (fun _ => False) k ∨ w.heap.size ≤ k) ∧ Kp w W (fun _ => False)) (fun j => (fireO ((u : Int) + 1) (lft l (u : Int))).length - j) (0) ?_ ?_
      ·
        exact ⟨En.sub hE ⟨rfl, rfl, rfl, rfl, rfl, rfl, rfl, rfl, (by rfl), trivial⟩, Nat.zero_le _, B_gW, B_gm, O_q6, Nb_q6_gW, Nb_q6_gm, Z_0_q6, K_0⟩
      ·
        clear hE a
        rintro j a w9 ⟨hE, hj9, B_gW, B_gm, O_q6, Nb_q6_gW, Nb_q6_gm, Z_0_q6, K_0⟩
        refine wp_seq ?_
        have hOl := fireO_len (now := (u : Int) + 1) (lft_nodup hN (u : Int))
        have hOl2 := lft_len l (u : Int)
        rcases Decidable.em ((j : Int) < ((fireO ((u : Int) + 1) (lft l (u : Int))).length : Int)) with hK2 | hK2
        ·
          refine c_reg R3_17_l ?_
          refine q0 p3_17_0 hE (st_move rfl) ?_
          clear hE a; intro a hE
          refine q0 p3_17_1 hE (st_move rfl) ?_
          clear hE a; intro a hE
          refine q0 p3_17_2 hE (st_len Try.underlying35 rfl) ?_
          clear hE a; intro a hE
          refine q0 p3_17_3 hE (st_lss (b := true) rfl rfl (decide_eq_true hK2)) ?_
          clear hE a; intro a hE
          refine p_nil ?_
          refine x_norm ?_
          refine c_cond (t := true) hE rfl ?_
          refine wp_skip ?_
          refine x_norm ?_
          refine wp_seq ?_
          refine wp_block ?_
          have hcb := cn_bnd (fireO ((u : Int) + 1) (lft l (u : Int))) idv j
          rcases Decidable.em (rd (fireO ((u : Int) + 1) (lft l (u : Int))) (j : Int) = idv) with hHIT | hHIT
          ·
            refine c_reg R3_19_l ?_
            refine q0 p3_19_0 hE (st_move rfl) ?_
            clear hE a; intro a hE
            refine q0 p3_19_1 hE (st_move rfl) ?_
            clear hE a; intro a hE
            refine q0 p3_19_2 hE (st_indexAddrC (i := j) Try.underlying35 tS3 (own_told O_q6) rfl rfl (by omega)) ?_
            clear hE a; intro a hE
            refine q0 (v := Value.int .i64 (rd (fireO ((u : Int) + 1) (lft l (u : Int))) (j : Int))) p3_19_3 hE (st_loadC (i := j) tA3 (own_told O_q6) (by omega) rfl) ?_
            clear hE a; intro a hE
            refine q0 p3_19_4 hE (st_move rfl) ?_
            clear hE a; intro a hE
            refine q0 p3_19_5 hE (st_eql (b := true) rfl rfl (decide_eq_true hHIT)) ?_
            clear hE a; intro a hE
            refine p_nil ?_
            refine x_norm ?_
            refine c_cond (t := true) hE rfl ?_
            refine c_regL R3_20_l ?_
            refine q0 p3_20_0 hE (st_move rfl) ?_
            clear hE a; intro a hE
            refine q0 p3_20_1 hE (st_add (z := (cn (fireO ((u : Int) + 1) (lft l (u : Int))) idv j) + 1) rfl rfl (wr_i64 _ (by omega) (by omega))) ?_
            clear hE a; intro a hE
            refine q0 p3_20_2 hE (st_assign rfl) ?_
            clear hE a; intro a hE
            refine p_nil ?_
            refine x_normB ?_
            refine x_norm ?_
            refine c_regL R3_18_l ?_
            refine q0 p3_18_0 hE (st_move rfl) ?_
            clear hE a; intro a hE
            refine q0 p3_18_1 hE (st_add (z := (j : Int) + 1) rfl rfl (wr_i64 _ (by omega) (by omega))) ?_
            clear hE a; intro a hE
            refine q0 p3_18_2 hE (st_assign rfl) ?_
            clear hE a; intro a hE
            refine p_nil ?_
            refine x_norm ?_
            have hcn9 := cn_next (x := idv) (show j < (fireO ((u : Int) + 1) (lft l (u : Int))).length by omega)
            rw [if_pos hHIT] at hcn9
            exact ⟨j + 1, by omega, En.sub hE ⟨rfl, rfl, rfl, rfl, rfl, rfl, rfl, rfl, (by rw [hcn9]; rfl), trivial⟩, by omega, B_gW, B_gm, O_q6, Nb_q6_gW, Nb_q6_gm, Z_0_q6, K_0⟩
          ·
            refine c_reg R3_19_l ?_
            refine q0 p3_19_0 hE (st_move rfl) ?_
            clear hE a; intro a hE
            refine q0 p3_19_1 hE (st_move rfl) ?_
            clear hE a; intro a hE
            refine q0 p3_19_2 hE (st_indexAddrC (i := j) Try.underlying35 tS3 (own_told O_q6) rfl rfl (by omega)) ?_
            clear hE a; intro a hE
            refine q0 (v := Value.int .i64 (rd (fireO ((u : Int) + 1) (lft l (u : Int))) (j : Int))) p3_19_3 hE (st_loadC (i := j) tA3 (own_told O_q6) (by omega) rfl) ?_
            clear hE a; intro a hE
            refine q0 p3_19_4 hE (st_move rfl) ?_
            clear hE a; intro a hE
            refine q0 p3_19_5 hE (st_eql (b := false) rfl rfl (decide_eq_false hHIT)) ?_
            clear hE a; intro a hE
            refine p_nil ?_
            refine x_norm ?_
            refine c_cond (t := false) hE rfl ?_
            refine wp_skip ?_
            refine x_normB ?_
            refine x_norm ?_
            refine c_regL R3_18_l ?_
            refine q0 p3_18_0 hE (st_move rfl) ?_
            clear hE a; intro a hE
            refine q0 p3_18_1 hE (st_add (z := (j : Int) + 1) rfl rfl (wr_i64 _ (by omega) (by omega))) ?_
            clear hE a; intro a hE
            refine q0 p3_18_2 hE (st_assign rfl) ?_
            clear hE a; intro a hE
            refine p_nil ?_
            refine x_norm ?_
            have hcn9 := cn_next (x := idv) (show j < (fireO ((u : Int) + 1) (lft l (u : Int))).length by omega)
            rw [if_neg hHIT, Int.add_zero] at hcn9
            exact ⟨j + 1, by omega, En.sub hE ⟨rfl, rfl, rfl, rfl, rfl, rfl, rfl, rfl, (by rw [hcn9]; rfl), trivial⟩, by omega, B_gW, B_gm, O_q6, Nb_q6_gW, Nb_q6_gm, Z_0_q6, K_0⟩
        ·
          refine c_reg R3_17_l ?_
          refine q0 p3_17_0 hE (st_move rfl) ?_
          clear hE a; intro a hE
          refine q0 p3_17_1 hE (st_move rfl) ?_
          clear hE a; intro a hE
          refine q0 p3_17_2 hE (st_len Try.underlying35 rfl) ?_
          clear hE a; intro a hE
          refine q0 p3_17_3 hE (st_lss (b := false) rfl rfl (decide_eq_false hK2)) ?_
          clear hE a; intro a hE
          refine p_nil ?_
          refine x_norm ?_
          refine c_cond (t := false) hE rfl ?_
          refine wp_exit ?_
          refine x_exit ?_
          refine x_exit ?_
          obtain rfl : j = (fireO ((u : Int) + 1) (lft l (u : Int))).length := by omega
          have hfc : cn (fireO ((u : Int) + 1) (lft l (u : Int))) idv (fireO ((u : Int) + 1) (lft l (u : Int))).length = if getI l idv = some ((u : Int) + 1) then 1 else 0 := by unfold cn; rw [List.take_length, fires hN]; split <;> rfl
          obtain ⟨fc, hfe⟩ : ∃ fc, cn (fireO ((u : Int) + 1) (lft l (u : Int))) idv (fireO ((u : Int) + 1) (lft l (u : Int))).length = fc := ⟨_, rfl⟩
          rw [hfe] at hE hfc
          refine x_in ?_
          refine x_norm ?_
          rcases Decidable.em ((u : Int) + 1 = nin) with hEQ | hEQ
          ·
            have hfv : fc = 1 := by rw [hfc, hget]; rw [if_pos (by rw [hEQ])]
            subst hfv
            refine c_reg R3_21_l ?_
            refine q0 p3_21_0 hE (st_move rfl) ?_
            clear hE a; intro a hE
            refine q0 p3_21_1 hE (st_gtr (b := false) rfl rfl (by decide)) ?_
            clear hE a; intro a hE
            refine q0 p3_21_2 hE (st_move rfl) ?_
            clear hE a; intro a hE
            refine p_cons (s_still p3_21_3 hE (wn_some g3_21_2 rfl rfl) rfl (st_move rfl) ?_)
            clear hE a; intro a hE
            refine p_cons (s_still p3_21_4 hE (wn_some g3_21_2 rfl rfl) rfl (st_eql (b := true) rfl rfl (by decide)) ?_)
            clear hE a; intro a hE
            refine p_cons (s_still p3_21_5 hE (wn_some g3_21_2 rfl rfl) rfl (st_move rfl) ?_)
            clear hE a; intro a hE
            refine p_cons (s_still p3_21_6 hE (wn_some g3_21_2 rfl rfl) rfl (st_move rfl) ?_)
            clear hE a; intro a hE
            refine p_cons (s_still p3_21_7 hE (wn_some g3_21_2 rfl rfl) rfl (st_eql (b := true) rfl rfl (decide_eq_true hEQ)) ?_)
            clear hE a; intro a hE
            refine p_cons (s_still p3_21_8 hE (wn_some g3_21_2 rfl rfl) rfl (st_move rfl) ?_)
            clear hE a; intro a hE
            refine p_cons (s_still p3_21_9 hE (wn_some g3_21_8 rfl rfl) rfl (st_move rfl) ?_)
            clear hE a; intro a hE
            refine p_cons (s_still p3_21_10 hE (wn_some g3_21_8 rfl rfl) rfl (st_not rfl rfl) ?_)
            clear hE a; intro a hE
            refine p_cons (s_still p3_21_11 hE (wn_some g3_21_2 rfl rfl) rfl (st_pick rfl rfl) ?_)
            clear hE a; intro a hE
            refine p_cons (s_still p3_21_12 hE (wn_some g3_21_2 rfl rfl) rfl (st_neqB (b := false) Try.underlying4 rfl rfl rfl) ?_)
            clear hE a; intro a hE
            refine q0 p3_21_13 hE (st_pick rfl rfl) ?_
            clear hE a; intro a hE
            refine p_nil ?_
            refine x_norm ?_
            refine c_cond (t := false) hE rfl ?_
            refine wp_skip ?_
            refine x_normB ?_
            refine x_norm ?_
            refine c_regL R3_13_l ?_
            refine q0 p3_13_0 hE (st_move rfl) ?_
            clear hE a; intro a hE
            refine q0 p3_13_1 hE (st_add (z := ((u : Int) + 1) + 1) rfl rfl (wr_i64 _ (by omega) (by omega))) ?_
            clear hE a; intro a hE
            refine q0 p3_13_2 hE (st_assign rfl) ?_
            clear hE a; intro a hE
            refine p_nil ?_
            refine x_norm ?_
            have hFS := (fire_spec ((u : Int) + 1) (lft l (u : Int)) (lft_nodup hN _)).2.2
            rw [lft_next] at hFS
            have MFe := MF7
            rw [hFS] at MFe
            exact ⟨u + 1, by omega, es4, ck5, En.sub hE ⟨rfl, rfl, rfl, rfl, rfl, trivial⟩, MFe, by omega, B_gW, B_gm, K_0⟩
          ·
            have hfv : fc = 0 := by rw [hfc, hget]; rw [if_neg (fun h => hEQ (by injection h with h; exact h.symm))]
            subst hfv
            refine c_reg R3_21_l ?_
            refine q0 p3_21_0 hE (st_move rfl) ?_
            clear hE a; intro a hE
            refine q0 p3_21_1 hE (st_gtr (b := false) rfl rfl (by decide)) ?_
            clear hE a; intro a hE
            refine q0 p3_21_2 hE (st_move rfl) ?_
            clear hE a; intro a hE
            refine p_cons (s_still p3_21_3 hE (wn_some g3_21_2 rfl rfl) rfl (st_move rfl) ?_)
            clear hE a; intro a hE
            refine p_cons (s_still p3_21_4 hE (wn_some g3_21_2 rfl rfl) rfl (st_eql (b := false) rfl rfl (by decide)) ?_)
            clear hE a; intro a hE
            refine p_cons (s_still p3_21_5 hE (wn_some g3_21_2 rfl rfl) rfl (st_move rfl) ?_)
            clear hE a; intro a hE
            refine p_cons (s_still p3_21_6 hE (wn_some g3_21_2 rfl rfl) rfl (st_move rfl) ?_)
            clear hE a; intro a hE
            refine p_cons (s_still p3_21_7 hE (wn_some g3_21_2 rfl rfl) rfl (st_eql (b := false) rfl rfl (decide_eq_false hEQ)) ?_)
            clear hE a; intro a hE
            refine p_cons (s_still p3_21_8 hE (wn_some g3_21_2 rfl rfl) rfl (st_move rfl) ?_)
            clear hE a; intro a hE
            refine p_cons (s_skip p3_21_9 hE (wn_some g3_21_8 rfl rfl) rfl ?_)
            clear hE a; intro a hE
            refine p_cons (s_skip p3_21_10 hE (wn_some g3_21_8 rfl rfl) rfl ?_)
            clear hE a; intro a hE
            refine p_cons (s_still p3_21_11 hE (wn_some g3_21_2 rfl rfl) rfl (st_pick rfl rfl) ?_)
            clear hE a; intro a hE
            refine p_cons (s_still p3_21_12 hE (wn_some g3_21_2 rfl rfl) rfl (st_neqB (b := false) Try.underlying4 rfl rfl rfl) ?_)
            clear hE a; intro a hE
            refine q0 p3_21_13 hE (st_pick rfl rfl) ?_
            clear hE a; intro a hE
            refine p_nil ?_
            refine x_norm ?_
            refine c_cond (t := false) hE rfl ?_
            refine wp_skip ?_
            refine x_normB ?_
            refine x_norm ?_
            refine c_regL R3_13_l ?_
            refine q0 p3_13_0 hE (st_move rfl) ?_
            clear hE a; intro a hE
            refine q0 p3_13_1 hE (st_add (z := ((u : Int) + 1) + 1) rfl rfl (wr_i64 _ (by omega) (by omega))) ?_
            clear hE a; intro a hE
            refine q0 p3_13_2 hE (st_assign rfl) ?_
            clear hE a; intro a hE
            refine p_nil ?_
            refine x_norm ?_
            have hFS := (fire_spec ((u : Int) + 1) (lft l (u : Int)) (lft_nodup hN _)).2.2
            rw [lft_next] at hFS
            have MFe := MF7
            rw [hFS] at MFe
            exact ⟨u + 1, by omega, es4, ck5, En.sub hE ⟨rfl, rfl, rfl, rfl, rfl, trivial⟩, MFe, by omega, B_gW, B_gm, K_0⟩
    ·
      refine c_reg R3_12_l ?_
      refine q0 p3_12_0 hE (st_move rfl) ?_
      clear hE a; intro a hE
      refine q0 p3_12_1 hE (st_leq (b := false) rfl rfl (decide_eq_false hK1)) ?_
      clear hE a; intro a hE
      refine p_nil ?_
      refine x_norm ?_
      refine c_cond (t := false) hE rfl ?_
      refine wp_exit ?_
      refine x_exit ?_
      refine x_exit ?_
      refine x_in ?_
      refine x_norm ?_
      refine c_reg R3_23_l ?_
      refine p_cons (s_call (xs := []) (args := []) p3_23_0 hE wn_none rfl rfl Try.func11 cl11 (kn10  _) ?_)
      rintro e w10 ⟨rfl, hk⟩
      replace B_gW := kp_blk B_gW hk (fun h => h)
      replace B_gm := kp_blk B_gm hk (fun h => h)
      replace K_0 := K_0.then_ hk (fun _ h => h.elim)
      refine ⟨_, rfl, ?_⟩
      clear hE a; intro a hE
      refine q0 p3_23_1 hE (st_assign rfl) ?_
      clear hE a; intro a hE
      refine p_nil ?_
      refine x_norm ?_
      refine wp_ret ?_
      refine ret_one (v := Value.bool true) rfl hE (.tmp rfl .nil) ?_
      exact hR _ K_0
theorem code_zero {x n : Int} (hx : 0 ≤ x ∧ x < 256) (hn : 1 ≤ n ∧ n ≤ 200) : codeW 0 x n = 0 := by
  unfold codeW seqB
  rw [if_pos ⟨decide_eq_true hx, hn.1, by omega⟩, if_neg (by omega)]
theorem set_get {l : LW} {x n : Int} (hc : codeW 0 x n = 0) : getI (setW l 0 x n) x = some n := by
  unfold setW
  rw [if_pos hc, Mi.getI_put, if_pos rfl, Int.zero_add]
theorem del_two {l : LW} (hn : (l.map (·.1)).Nodup) {x n : Int} (h : getI l x = some n) : (l.length : Int) - ((delI (delI l x) x).length : Int) = 1 ∧ getI (delI (delI l x) x) x = none ∧ delI (delI l x) x = delI l x := by
  have h1 : getI (delI l x) x = none := by rw [Mi.getI_del hn, if_pos rfl]
  have e : delI (delI l x) x = delI l x := Mi.delI_none (Mi.getI_none.1 h1)
  refine ⟨?_, by rw [e]; exact h1, e⟩
  rw [e, Mi.delI_len, h]
  have : 0 < l.length := List.length_pos_of_mem (Mi.getI_mem h)
  simp only [Option.isSome_some, if_true]
  omega
theorem front_one {l : LW} {i : Nat} (h : FrontOk l i) : ∀ p ∈ l, 1 ≤ p.2 := fun p hp => (h.2 p hp).1
theorem front_del {l : LW} {i : Nat} (x : Int) (h : FrontOk l i) : FrontOk (delI l x) i := ⟨Nat.le_trans (Mi.delI_sub x).length_le h.1, fun p hp => h.2 p ((Mi.delI_sub x).subset hp)⟩
theorem R3_7_l : List.range (regOf Try.f3 7).size = [0, 1, 2, 3, 4] := by kernel_rfl
theorem R3_8_l : List.range (regOf Try.f3 8).size = [0] := by kernel_rfl
theorem R3_9_l : List.range (regOf Try.f3 9).size = [0, 1, 2, 3, 4, 5, 6, 7, 8] := by kernel_rfl
theorem R3_10_l : List.range (regOf Try.f3 10).size = [0] := by kernel_rfl
theorem p3_7_0 : pj (regOf Try.f3 7) 0 = some (some 48, .move (.tmp 9), 24, none) := by kernel_rfl
theorem p3_7_1 : pj (regOf Try.f3 7) 1 = some (some 49, .move (.tmp 0), 3, none) := by kernel_rfl
theorem p3_7_2 : pj (regOf Try.f3 7) 2 = some (some 50, .move (.tmp 1), 3, none) := by kernel_rfl
theorem p3_7_3 : pj (regOf Try.f3 7) 3 = some (some 51, .call { callee := .value (.func 8), args := #[.tmp 48, .tmp 49, .tmp 50], argTypes := #[24, 3, 3] }, 30, none) := by kernel_rfl
theorem p3_7_4 : pj (regOf Try.f3 7) 4 = some (some 52, .binOp .neq 30 (.tmp 51) (.const (.int .i64 0)) 30, 4, none) := by kernel_rfl
theorem p3_9_0 : pj (regOf Try.f3 9) 0 = some (some 53, .move (.tmp 3), 4, none) := by kernel_rfl
theorem p3_9_1 : pj (regOf Try.f3 9) 1 = some (some 54, .move (.tmp 53), 4, none) := by kernel_rfl
theorem p3_9_2 : pj (regOf Try.f3 9) 2 = some (some 55, .move (.tmp 9), 24, some (1, true)) := by kernel_rfl
theorem g3_9_1 : dstOf (regOf Try.f3 9) 1 = some 54 := by kernel_rfl
theorem p3_9_3 : pj (regOf Try.f3 9) 3 = some (some 56, .move (.tmp 0), 3, some (1, true)) := by kernel_rfl
theorem p3_9_4 : pj (regOf Try.f3 9) 4 = some (some 57, .move (.tmp 0), 3, some (1, true)) := by kernel_rfl
theorem p3_9_5 : pj (regOf Try.f3 9) 5 = some (some 58, .buildSlice 35 2 #[(0, .tmp 56), (1, .tmp 57)], 35, some (1, true)) := by kernel_rfl
theorem p3_9_6 : pj (regOf Try.f3 9) 6 = some (some 59, .call { callee := .value (.func 9), args := #[.tmp 55, .tmp 58], argTypes := #[24, 35] }, 3, some (1, true)) := by kernel_rfl
theorem cl9 : callable Try.f9 = true := by kernel_rfl
theorem p3_9_7 : pj (regOf Try.f3 9) 7 = some (some 60, .binOp .neq 3 (.tmp 59) (.const (.int .i64 1)) 3, 4, some (1, true)) := by kernel_rfl
theorem p3_9_8 : pj (regOf Try.f3 9) 8 = some (some 61, .pick (.tmp 54) (.tmp 60) (.const (.bool false)), 4, none) := by kernel_rfl
set_option maxHeartbeats 4000000 in
theorem once7 {R : Ending → World → Prop} (w W : World) (gW : Nat) (mb : Option Nat) (l9 : LW) (B_gW : W.heap[gW]? = some (.cells #[.int .i64 0, .map mb] 29 (0, 0))) (hM : ((mb = none ∧ l9 = []) ∨ ∃ gm es ck, mb = some gm ∧ W.heap[gm]? = some (.map es ck) ∧ MapI (Value.int .i64) es ck l9 ∧ gW ≠ gm ∧ w.heap.size ≤ gm)) (hfo : FrontOk l9 100) (z_0_gW : w.heap.size ≤ gW) (K_0 : Kp w W (fun _ => False)) (idv nin : Int) (hidv : 0 ≤ idv ∧ idv < 256) (hnin : 1 ≤ nin ∧ nin ≤ 200) (a3 : Bool) (hR : ∀ W', Kp w W' (fun _ => False) → R (.returned (.bool true)) W') (a : Act) (hE : En 97 a [(0, Value.int .i64 idv), (1, Value.int .i64 nin), (3, Value.bool a3), (9, Value.pointer (some ⟨gW, 0, none⟩))]) : Code.wp Try.prog (.seq (.seq (.region 7 (regOf Try.f3 7) false) (.cond (Operand.tmp 52) (.seq (.region 8 (regOf Try.f3 8) false) (.ret)) (.skip))) (.seq (.seq (.region 9 (regOf Try.f3 9) false) (.cond (Operand.tmp 61) (.seq (.region 10 (regOf Try.f3 10) false) (.ret)) (.skip))) (.seq (.seq (.region 11 (regOf Try.f3 11) false) (.block 2 (.loop (.seq (.seq (.region 12 (regOf Try.f3 12) false) (.cond (Operand.tmp 63) (.skip) (.exit 2))) (.seq (.block 3 (.seq (.region 14 (regOf Try.f3 14) false) (.seq (.region 15 (regOf Try.f3 15) false) (.seq (.seq (.region 16 (regOf Try.f3 16) false) (.block 4 (.loop (.seq (.seq (.region 17 (regOf Try.f3 17) false) (.cond (Operand.tmp 71) (.skip) (.exit 4))) (.seq (.block 5 (.seq (.region 19 (regOf Try.f3 19) false) (.cond (Operand.tmp 79) (.region 20 (regOf Try.f3 20) false) (.skip)))) (.region 18 (regOf Try.f3 18) false)))))) (.seq (.region 21 (regOf Try.f3 21) false) (.cond (Operand.tmp 95) (.seq (.region 22 (regOf Try.f3 22) false) (.ret)) (.skip))))))) (.region 13 (regOf Try.f3 13) false)))))) (.seq (.region 23 (regOf Try.f3 23) false) (.ret))))) (bodyPost Try.prog Try.f3 R) a W := by
  have hcz := code_zero hidv hnin
  refine wp_seq ?_
  rcases Decidable.em (mb = none) with hNIL | hNIL
  ·
    subst hNIL
    obtain rfl : l9 = [] := by rcases hM with ⟨_, h⟩ | ⟨gm, es, ck, h, _⟩; exact h; cases h
    refine c_reg R3_7_l ?_
    refine q0 p3_7_0 hE (st_move rfl) ?_
    clear hE a; intro a hE
    refine q0 p3_7_1 hE (st_move rfl) ?_
    clear hE a; intro a hE
    refine q0 p3_7_2 hE (st_move rfl) ?_
    clear hE a; intro a hE
    refine p_cons (s_call (xs := [Operand.tmp 48, Operand.tmp 49, Operand.tmp 50]) (args := [Value.pointer (some ⟨gW, 0, none⟩), Value.int .i64 idv, Value.int .i64 nin]) p3_7_3 hE wn_none rfl rfl Try.func8 cl8 (set_nil_ok gW 0 idv nin _ ⟨by decide, by decide⟩ hcz B_gW) ?_)
    rintro e w6 ⟨gm1, es2, ck3, rfl, z4, B_gW', B_gm1, MF5, hk⟩
    have n_gW_gm1 : gW ≠ gm1 := ne_new B_gW z4
    have z_0_gm1 := Nat.le_trans K_0.kept.1 z4
    replace K_0 := K_0.then_ hk (fun k h => by rw [show k = gW from h]; exact Or.inr z_0_gW)
    replace B_gW := B_gW'
    refine ⟨_, rfl, ?_⟩
    clear hE a; intro a hE
    refine q0 p3_7_4 hE (st_neq (b := false) rfl rfl (by decide)) ?_
    clear hE a; intro a hE
    refine p_nil ?_
    refine x_norm ?_
    refine c_cond (t := false) hE rfl ?_
    refine wp_skip ?_
    refine x_norm ?_
    refine wp_seq ?_
    rcases Decidable.em (a3 = true) with hCA | hCA
    ·
      subst hCA
      have hfs := front_set (x := idv) (n := nin) (front_nil 100)
      have hgs := set_get (l := []) hcz
      obtain ⟨lS, hlS⟩ : ∃ q, (setW [] 0 idv nin) = q := ⟨_, rfl⟩
      have MFs := MF5
      rw [hlS] at hfs hgs MFs
      have hdt := del_two MFs.nodup hgs
      have hl1 := hfs.1
      refine c_reg R3_9_l ?_
      refine q0 p3_9_0 hE (st_move rfl) ?_
      clear hE a; intro a hE
      refine q0 p3_9_1 hE (st_move rfl) ?_
      clear hE a; intro a hE
      refine p_cons (s_still p3_9_2 hE (wn_some g3_9_1 rfl rfl) rfl (st_move rfl) ?_)
      clear hE a; intro a hE
      refine p_cons (s_still p3_9_3 hE (wn_some g3_9_1 rfl rfl) rfl (st_move rfl) ?_)
      clear hE a; intro a hE
      refine p_cons (s_still p3_9_4 hE (wn_some g3_9_1 rfl rfl) rfl (st_move rfl) ?_)
      clear hE a; intro a hE
      refine p_cons (s_row (xs := [(0, Operand.tmp 56), (1, Operand.tmp 57)]) (vs := [(0, Value.int .i64 idv), (1, Value.int .i64 idv)]) (cs := #[Value.int .i64 idv, Value.int .i64 idv]) p3_9_5 hE (wn_some g3_9_1 rfl rfl) rfl Try.underlying35 rfl (by kernel_rfl) ?_)
      clear hE a; intro g7 w8 z9 B_g7 hk a hE
      have n_gW_g7 : gW ≠ g7 := ne_new B_gW z9
      have n_gm1_g7 : gm1 ≠ g7 := ne_new B_gm1 z9
      have z_0_g7 := Nat.le_trans K_0.kept.1 z9
      replace B_gW := kp_blk B_gW hk (fun h => h)
      replace B_gm1 := kp_blk B_gm1 hk (fun h => h)
      replace K_0 := K_0.then_ hk (fun _ h => h.elim)
      clear hk
      refine p_cons (s_call (xs := [Operand.tmp 55, Operand.tmp 58]) (args := [Value.pointer (some ⟨gW, 0, none⟩), Value.slice (some ⟨g7, 0, none⟩) 2 2]) p3_9_6 hE (wn_some g3_9_1 rfl rfl) rfl rfl Try.func9 cl9 (cancel_any gW gm1 ck3 es2 lS 0 g7 idv idv _ (by omega) B_g7 n_gW_g7 B_gW B_gm1 MFs n_gW_gm1) ?_)
      rintro e w11 ⟨esm10, ckm10, rfl, MFm10, B_gm1', hk⟩
      replace B_gW := kp_blk B_gW hk n_gW_gm1
      replace B_g7 := kp_blk B_g7 hk (Ne.symm n_gm1_g7)
      replace K_0 := K_0.then_ hk (fun k h => by rw [show k = gm1 from h]; exact Or.inr z_0_gm1)
      replace B_gm1 := B_gm1'
      refine ⟨_, rfl, ?_⟩
      clear hE a; intro a hE
      refine p_cons (s_still p3_9_7 hE (wn_some g3_9_1 rfl rfl) rfl (st_neq (b := false) rfl rfl (by rw [hdt.1]; rfl)) ?_)
      clear hE a; intro a hE
      refine q0 p3_9_8 hE (st_pick rfl rfl) ?_
      clear hE a; intro a hE
      refine p_nil ?_
      refine x_norm ?_
      refine c_cond (t := false) hE rfl ?_
      refine wp_skip ?_
      refine x_norm ?_
      have hfs2 := front_del idv hfs
      rw [hdt.2.2] at hdt
      have hgd := hdt.2.1
      have MFd := MFm10
      rw [show delI (delI lS idv) idv = delI lS idv from Mi.delI_none (Mi.getI_none.1 hgd)] at MFd
      have hE2 : En 97 a [(0, Value.int .i64 idv), (1, Value.int .i64 nin), (3, Value.bool true), (9, Value.pointer (some ⟨gW, 0, none⟩))] := En.sub hE ⟨rfl, rfl, rfl, rfl, trivial⟩
      exact once11t w w11 gW gm1 ckm10 esm10 (delI lS idv) B_gW B_gm1 MFd n_gW_gm1 z_0_gW z_0_gm1 K_0 idv nin (by have := hfs2.1; omega) (front_one hfs2) hgd hR _ hE2
    ·
      obtain rfl : a3 = false := by simpa using hCA
      have hfs := front_set (x := idv) (n := nin) (front_nil 100)
      have hgs := set_get (l := []) hcz
      obtain ⟨lS, hlS⟩ : ∃ q, (setW [] 0 idv nin) = q := ⟨_, rfl⟩
      have MFs := MF5
      rw [hlS] at hfs hgs MFs
      have hdt := del_two MFs.nodup hgs
      have hl1 := hfs.1
      refine c_reg R3_9_l ?_
      refine q0 p3_9_0 hE (st_move rfl) ?_
      clear hE a; intro a hE
      refine q0 p3_9_1 hE (st_move rfl) ?_
      clear hE a; intro a hE
      refine p_cons (s_skip p3_9_2 hE (wn_some g3_9_1 rfl rfl) rfl ?_)
      clear hE a; intro a hE
      refine p_cons (s_skip p3_9_3 hE (wn_some g3_9_1 rfl rfl) rfl ?_)
      clear hE a; intro a hE
      refine p_cons (s_skip p3_9_4 hE (wn_some g3_9_1 rfl rfl) rfl ?_)
      clear hE a; intro a hE
      refine p_cons (s_skip p3_9_5 hE (wn_some g3_9_1 rfl rfl) rfl ?_)
      clear hE a; intro a hE
      refine p_cons (s_skip p3_9_6 hE (wn_some g3_9_1 rfl rfl) rfl ?_)
      clear hE a; intro a hE
      refine p_cons (s_skip p3_9_7 hE (wn_some g3_9_1 rfl rfl) rfl ?_)
      clear hE a; intro a hE
      refine q0 p3_9_8 hE (st_pick rfl rfl) ?_
      clear hE a; intro a hE
      refine p_nil ?_
      refine x_norm ?_
      refine c_cond (t := false) hE rfl ?_
      refine wp_skip ?_
      refine x_norm ?_
      have hE2 : En 97 a [(0, Value.int .i64 idv), (1, Value.int .i64 nin), (3, Value.bool false), (9, Value.pointer (some ⟨gW, 0, none⟩))] := En.sub hE ⟨rfl, rfl, rfl, rfl, trivial⟩
      exact once11f w w6 gW gm1 ck3 es2 lS B_gW B_gm1 MFs n_gW_gm1 z_0_gW z_0_gm1 K_0 idv nin (by have := hfs.1; omega) (front_one hfs) hgs hR _ hE2
  ·
    obtain ⟨gm9, es8, ck8, rfl, B_gm9, MF8, n_gW_gm9, z_0_gm9⟩ := hM.resolve_left (fun h => hNIL h.1)
    refine c_reg R3_7_l ?_
    refine q0 p3_7_0 hE (st_move rfl) ?_
    clear hE a; intro a hE
    refine q0 p3_7_1 hE (st_move rfl) ?_
    clear hE a; intro a hE
    refine q0 p3_7_2 hE (st_move rfl) ?_
    clear hE a; intro a hE
    refine p_cons (s_call (xs := [Operand.tmp 48, Operand.tmp 49, Operand.tmp 50]) (args := [Value.pointer (some ⟨gW, 0, none⟩), Value.int .i64 idv, Value.int .i64 nin]) p3_7_3 hE wn_none rfl rfl Try.func8 cl8 (set_map_ok gW gm9 ck8 es8 l9 0 idv nin _ ⟨by decide, by decide⟩ hcz B_gW B_gm9 MF8 n_gW_gm9) ?_)
    rintro e w13 ⟨esm12, ckm12, rfl, MFm12, B_gm9', hk⟩
    replace B_gW := kp_blk B_gW hk n_gW_gm9
    replace K_0 := K_0.then_ hk (fun k h => by rw [show k = gm9 from h]; exact Or.inr z_0_gm9)
    replace B_gm9 := B_gm9'
    refine ⟨_, rfl, ?_⟩
    clear hE a; intro a hE
    refine q0 p3_7_4 hE (st_neq (b := false) rfl rfl (by decide)) ?_
    clear hE a; intro a hE
    refine p_nil ?_
    refine x_norm ?_
    refine c_cond (t := false) hE rfl ?_
    refine wp_skip ?_
    refine x_norm ?_
    refine wp_seq ?_
    rcases Decidable.em (a3 = true) with hCA | hCA
    ·
      subst hCA
      have hfs := front_set (x := idv) (n := nin) hfo
      have hgs := set_get (l := l9) hcz
      obtain ⟨lS, hlS⟩ : ∃ q, (setW l9 0 idv nin) = q := ⟨_, rfl⟩
      have MFs := MFm12
      rw [hlS] at hfs hgs MFs
      have hdt := del_two MFs.nodup hgs
      have hl1 := hfs.1
      refine c_reg R3_9_l ?_
      refine q0 p3_9_0 hE (st_move rfl) ?_
      clear hE a; intro a hE
      refine q0 p3_9_1 hE (st_move rfl) ?_
      clear hE a; intro a hE
      refine p_cons (s_still p3_9_2 hE (wn_some g3_9_1 rfl rfl) rfl (st_move rfl) ?_)
      clear hE a; intro a hE
      refine p_cons (s_still p3_9_3 hE (wn_some g3_9_1 rfl rfl) rfl (st_move rfl) ?_)
      clear hE a; intro a hE
      refine p_cons (s_still p3_9_4 hE (wn_some g3_9_1 rfl rfl) rfl (st_move rfl) ?_)
      clear hE a; intro a hE
      refine p_cons (s_row (xs := [(0, Operand.tmp 56), (1, Operand.tmp 57)]) (vs := [(0, Value.int .i64 idv), (1, Value.int .i64 idv)]) (cs := #[Value.int .i64 idv, Value.int .i64 idv]) p3_9_5 hE (wn_some g3_9_1 rfl rfl) rfl Try.underlying35 rfl (by kernel_rfl) ?_)
      clear hE a; intro g14 w15 z16 B_g14 hk a hE
      have n_gW_g14 : gW ≠ g14 := ne_new B_gW z16
      have n_gm9_g14 : gm9 ≠ g14 := ne_new B_gm9 z16
      have z_0_g14 := Nat.le_trans K_0.kept.1 z16
      replace B_gW := kp_blk B_gW hk (fun h => h)
      replace B_gm9 := kp_blk B_gm9 hk (fun h => h)
      replace K_0 := K_0.then_ hk (fun _ h => h.elim)
      clear hk
      refine p_cons (s_call (xs := [Operand.tmp 55, Operand.tmp 58]) (args := [Value.pointer (some ⟨gW, 0, none⟩), Value.slice (some ⟨g14, 0, none⟩) 2 2]) p3_9_6 hE (wn_some g3_9_1 rfl rfl) rfl rfl Try.func9 cl9 (cancel_any gW gm9 ckm12 esm12 lS 0 g14 idv idv _ (by omega) B_g14 n_gW_g14 B_gW B_gm9 MFs n_gW_gm9) ?_)
      rintro e w18 ⟨esm17, ckm17, rfl, MFm17, B_gm9', hk⟩
      replace B_gW := kp_blk B_gW hk n_gW_gm9
      replace B_g14 := kp_blk B_g14 hk (Ne.symm n_gm9_g14)
      replace K_0 := K_0.then_ hk (fun k h => by rw [show k = gm9 from h]; exact Or.inr z_0_gm9)
      replace B_gm9 := B_gm9'
      refine ⟨_, rfl, ?_⟩
      clear hE a; intro a hE
      refine p_cons (s_still p3_9_7 hE (wn_some g3_9_1 rfl rfl) rfl (st_neq (b := false) rfl rfl (by rw [hdt.1]; rfl)) ?_)
      clear hE a; intro a hE
      refine q0 p3_9_8 hE (st_pick rfl rfl) ?_
      clear hE a; intro a hE
      refine p_nil ?_
      refine x_norm ?_
      refine c_cond (t := false) hE rfl ?_
      refine wp_skip ?_
      refine x_norm ?_
      have hfs2 := front_del idv hfs
      rw [hdt.2.2] at hdt
      have hgd := hdt.2.1
      have MFd := MFm17
      rw [show delI (delI lS idv) idv = delI lS idv from Mi.delI_none (Mi.getI_none.1 hgd)] at MFd
      have hE2 : En 97 a [(0, Value.int .i64 idv), (1, Value.int .i64 nin), (3, Value.bool true), (9, Value.pointer (some ⟨gW, 0, none⟩))] := En.sub hE ⟨rfl, rfl, rfl, rfl, trivial⟩
      exact once11t w w18 gW gm9 ckm17 esm17 (delI lS idv) B_gW B_gm9 MFd n_gW_gm9 z_0_gW z_0_gm9 K_0 idv nin (by have := hfs2.1; omega) (front_one hfs2) hgd hR _ hE2
    ·
      obtain rfl : a3 = false := by simpa using hCA
      have hfs := front_set (x := idv) (n := nin) hfo
      have hgs := set_get (l := l9) hcz
      obtain ⟨lS, hlS⟩ : ∃ q, (setW l9 0 idv nin) = q := ⟨_, rfl⟩
      have MFs := MFm12
      rw [hlS] at hfs hgs MFs
      have hdt := del_two MFs.nodup hgs
      have hl1 := hfs.1
      refine c_reg R3_9_l ?_
      refine q0 p3_9_0 hE (st_move rfl) ?_
      clear hE a; intro a hE
      refine q0 p3_9_1 hE (st_move rfl) ?_
      clear hE a; intro a hE
      refine p_cons (s_skip p3_9_2 hE (wn_some g3_9_1 rfl rfl) rfl ?_)
      clear hE a; intro a hE
      refine p_cons (s_skip p3_9_3 hE (wn_some g3_9_1 rfl rfl) rfl ?_)
      clear hE a; intro a hE
      refine p_cons (s_skip p3_9_4 hE (wn_some g3_9_1 rfl rfl) rfl ?_)
      clear hE a; intro a hE
      refine p_cons (s_skip p3_9_5 hE (wn_some g3_9_1 rfl rfl) rfl ?_)
      clear hE a; intro a hE
      refine p_cons (s_skip p3_9_6 hE (wn_some g3_9_1 rfl rfl) rfl ?_)
      clear hE a; intro a hE
      refine p_cons (s_skip p3_9_7 hE (wn_some g3_9_1 rfl rfl) rfl ?_)
      clear hE a; intro a hE
      refine q0 p3_9_8 hE (st_pick rfl rfl) ?_
      clear hE a; intro a hE
      refine p_nil ?_
      refine x_norm ?_
      refine c_cond (t := false) hE rfl ?_
      refine wp_skip ?_
      refine x_norm ?_
      have hE2 : En 97 a [(0, Value.int .i64 idv), (1, Value.int .i64 nin), (3, Value.bool false), (9, Value.pointer (some ⟨gW, 0, none⟩))] := En.sub hE ⟨rfl, rfl, rfl, rfl, trivial⟩
      exact once11f w w13 gW gm9 ckm12 esm12 lS B_gW B_gm9 MFs n_gW_gm9 z_0_gW z_0_gm9 K_0 idv nin (by have := hfs.1; omega) (front_one hfs) hgs hR _ hE2
theorem R3_0_l : List.range (regOf Try.f3 0).size = [0] := by kernel_rfl
theorem R3_1_l : List.range (regOf Try.f3 1).size = [0, 1, 2, 3, 4, 5, 6, 7, 8, 9, 10] := by kernel_rfl
theorem R3_2_l : List.range (regOf Try.f3 2).size = [0, 1, 2] := by kernel_rfl
theorem R3_3_l : List.range (regOf Try.f3 3).size = [0] := by kernel_rfl
theorem R3_4_l : List.range (regOf Try.f3 4).size = [0, 1, 2, 3, 4, 5, 6, 7] := by kernel_rfl
theorem R3_6_l : List.range (regOf Try.f3 6).size = [0, 1, 2, 3, 4, 5, 6, 7, 8, 9, 10, 11] := by kernel_rfl
theorem R3_5_l : List.range (regOf Try.f3 5).size = [0, 1, 2] := by kernel_rfl
theorem body3 : Try.f3.body = some (.seq (.region 0 (regOf Try.f3 0) false) (.seq (.region 1 (regOf Try.f3 1) false) (.seq (.region 2 (regOf Try.f3 2) false) (.seq (.seq (.region 3 (regOf Try.f3 3) false) (.block 0 (.loop (.seq (.seq (.region 4 (regOf Try.f3 4) false) (.cond (Operand.tmp 33) (.skip) (.exit 0))) (.seq (.block 1 (.region 6 (regOf Try.f3 6) true)) (.region 5 (regOf Try.f3 5) false)))))) (.seq (.seq (.region 7 (regOf Try.f3 7) false) (.cond (Operand.tmp 52) (.seq (.region 8 (regOf Try.f3 8) false) (.ret)) (.skip))) (.seq (.seq (.region 9 (regOf Try.f3 9) false) (.cond (Operand.tmp 61) (.seq (.region 10 (regOf Try.f3 10) false) (.ret)) (.skip))) (.seq (.seq (.region 11 (regOf Try.f3 11) false) (.block 2 (.loop (.seq (.seq (.region 12 (regOf Try.f3 12) false) (.cond (Operand.tmp 63) (.skip) (.exit 2))) (.seq (.block 3 (.seq (.region 14 (regOf Try.f3 14) false) (.seq (.region 15 (regOf Try.f3 15) false) (.seq (.seq (.region 16 (regOf Try.f3 16) false) (.block 4 (.loop (.seq (.seq (.region 17 (regOf Try.f3 17) false) (.cond (Operand.tmp 71) (.skip) (.exit 4))) (.seq (.block 5 (.seq (.region 19 (regOf Try.f3 19) false) (.cond (Operand.tmp 79) (.region 20 (regOf Try.f3 20) false) (.skip)))) (.region 18 (regOf Try.f3 18) false)))))) (.seq (.region 21 (regOf Try.f3 21) false) (.cond (Operand.tmp 95) (.seq (.region 22 (regOf Try.f3 22) false) (.ret)) (.skip))))))) (.region 13 (regOf Try.f3 13) false)))))) (.seq (.region 23 (regOf Try.f3 23) false) (.ret))))))))) := by kernel_rfl
theorem p3_0_0 : pj (regOf Try.f3 0) 0 = some (some 8, .assign (.const (.bool false)), 4, none) := by kernel_rfl
theorem p3_1_0 : pj (regOf Try.f3 1) 0 = some (some 15, .move (.tmp 0), 3, none) := by kernel_rfl
theorem p3_1_1 : pj (regOf Try.f3 1) 1 = some (some 16, .convert 3 23 (.tmp 15), 23, none) := by kernel_rfl
theorem p3_1_2 : pj (regOf Try.f3 1) 2 = some (some 17, .binOp .rem 23 (.tmp 16) (.const (.int .u64 256)) 23, 23, none) := by kernel_rfl
theorem p3_1_3 : pj (regOf Try.f3 1) 3 = some (some 18, .convert 23 3 (.tmp 17), 3, none) := by kernel_rfl
theorem p3_1_4 : pj (regOf Try.f3 1) 4 = some (some 19, .move (.tmp 1), 3, none) := by kernel_rfl
theorem p3_1_5 : pj (regOf Try.f3 1) 5 = some (some 20, .convert 3 23 (.tmp 19), 23, none) := by kernel_rfl
theorem p3_1_6 : pj (regOf Try.f3 1) 6 = some (some 21, .binOp .rem 23 (.tmp 20) (.const (.int .u64 200)) 23, 23, none) := by kernel_rfl
theorem p3_1_7 : pj (regOf Try.f3 1) 7 = some (some 22, .convert 23 3 (.tmp 21), 3, none) := by kernel_rfl
theorem p3_1_8 : pj (regOf Try.f3 1) 8 = some (some 23, .binOp .add 3 (.const (.int .i64 1)) (.tmp 22) 3, 3, none) := by kernel_rfl
theorem p3_1_9 : pj (regOf Try.f3 1) 9 = some (some 0, .assign (.tmp 18), 3, none) := by kernel_rfl
theorem p3_1_10 : pj (regOf Try.f3 1) 10 = some (some 1, .assign (.tmp 23), 3, none) := by kernel_rfl
theorem p3_2_0 : pj (regOf Try.f3 2) 0 = some (some 24, .build 29 #[], 29, none) := by kernel_rfl
theorem p3_2_1 : pj (regOf Try.f3 2) 1 = some (some 25, .box 29 (.tmp 24), 24, none) := by kernel_rfl
theorem p3_2_2 : pj (regOf Try.f3 2) 2 = some (some 9, .assign (.tmp 25), 24, none) := by kernel_rfl
theorem p3_3_0 : pj (regOf Try.f3 3) 0 = some (some 10, .assign (.const (.int .i64 0)), 3, none) := by kernel_rfl
theorem p3_4_0 : pj (regOf Try.f3 4) 0 = some (some 26, .move (.tmp 10), 3, none) := by kernel_rfl
theorem p3_4_1 : pj (regOf Try.f3 4) 1 = some (some 27, .move (.tmp 2), 22, none) := by kernel_rfl
theorem p3_4_2 : pj (regOf Try.f3 4) 2 = some (some 28, .call { callee := .builtin .len, args := #[.tmp 27], argTypes := #[22] }, 3, none) := by kernel_rfl
theorem p3_4_3 : pj (regOf Try.f3 4) 3 = some (some 29, .binOp .lss 3 (.tmp 26) (.tmp 28) 3, 4, none) := by kernel_rfl
theorem p3_4_4 : pj (regOf Try.f3 4) 4 = some (some 30, .move (.tmp 29), 4, none) := by kernel_rfl
theorem p3_4_5 : pj (regOf Try.f3 4) 5 = some (some 31, .move (.tmp 10), 3, some (4, true)) := by kernel_rfl
theorem g3_4_4 : dstOf (regOf Try.f3 4) 4 = some 30 := by kernel_rfl
theorem p3_4_6 : pj (regOf Try.f3 4) 6 = some (some 32, .binOp .lss 3 (.tmp 31) (.const (.int .i64 30)) 3, 4, some (4, true)) := by kernel_rfl
theorem p3_4_7 : pj (regOf Try.f3 4) 7 = some (some 33, .pick (.tmp 30) (.tmp 32) (.const (.bool false)), 4, none) := by kernel_rfl
theorem ns3_6 : Region.noSelect (regOf Try.f3 6) = true := by kernel_rfl
theorem p3_6_0 : pj (regOf Try.f3 6) 0 = some (some 36, .move (.tmp 9), 24, none) := by kernel_rfl
theorem p3_6_1 : pj (regOf Try.f3 6) 1 = some (some 37, .move (.tmp 2), 22, none) := by kernel_rfl
theorem p3_6_2 : pj (regOf Try.f3 6) 2 = some (some 38, .move (.tmp 10), 3, none) := by kernel_rfl
theorem p3_6_3 : pj (regOf Try.f3 6) 3 = some (some 39, .indexAddr 22 (.tmp 37) (.tmp 38), 0, none) := by kernel_rfl
theorem tS33 : (Try.prog.info? 33).map (·.size) = some 3 := by kernel_rfl
theorem p3_6_4 : pj (regOf Try.f3 6) 4 = some (some 40, .fieldAddr 33 (.tmp 39) 1, 0, none) := by kernel_rfl
theorem p3_6_5 : pj (regOf Try.f3 6) 5 = some (some 41, .load 3 (.tmp 40), 3, none) := by kernel_rfl
theorem p3_6_6 : pj (regOf Try.f3 6) 6 = some (some 42, .move (.tmp 2), 22, none) := by kernel_rfl
theorem p3_6_7 : pj (regOf Try.f3 6) 7 = some (some 43, .move (.tmp 10), 3, none) := by kernel_rfl
theorem p3_6_8 : pj (regOf Try.f3 6) 8 = some (some 44, .indexAddr 22 (.tmp 42) (.tmp 43), 0, none) := by kernel_rfl
theorem p3_6_9 : pj (regOf Try.f3 6) 9 = some (some 45, .fieldAddr 33 (.tmp 44) 2, 0, none) := by kernel_rfl
theorem p3_6_10 : pj (regOf Try.f3 6) 10 = some (some 46, .load 3 (.tmp 45), 3, none) := by kernel_rfl
theorem p3_6_11 : pj (regOf Try.f3 6) 11 = some (some 47, .call { callee := .value (.func 8), args := #[.tmp 36, .tmp 41, .tmp 46], argTypes := #[24, 3, 3] }, 30, none) := by kernel_rfl
theorem p3_5_0 : pj (regOf Try.f3 5) 0 = some (some 34, .move (.tmp 10), 3, none) := by kernel_rfl
theorem p3_5_1 : pj (regOf Try.f3 5) 1 = some (some 35, .binOp .add 3 (.tmp 34) (.const (.int .i64 1)) 3, 3, none) := by kernel_rfl
theorem p3_5_2 : pj (regOf Try.f3 5) 2 = some (some 10, .assign (.tmp 35), 3, none) := by kernel_rfl
set_option maxHeartbeats 4000000 in
theorem walk (a0 : Int) (a1 : Int) (a2 : Option Addr) (cap2 : Nat) (z2 : List (Int × Int × Int)) (a3 : Bool) (w : World) (w0 : (Lit.int .i64 a0).wf = true) (w1 : (Lit.int .i64 a1).wf = true) (w2 : Kd.C (Kd.pair (Kd.int .i64) (Kd.pair (Kd.int .i64) (Kd.int .i64))) w a2 z2.length z2) (m2 : z2.length ≤ cap2) (o2 : (z2.length ≤ maxLen ∧ ∀ x0 ∈ z2, ((Lit.int .i64 x0.1).wf = true ∧ ((Lit.int .i64 x0.2.1).wf = true ∧ ((Lit.int .i64 x0.2.2).wf = true))))) (y2 : z2.length * Try.prog.bytesOf 33 ≤ 140737488351232) (c2 : cap2 ≤ maxLen ∧ (a2 = none → cap2 = 0)) :
    Calls Try.prog 3 #[.int .i64 a0, .int .i64 a1, .slice a2 z2.length cap2, .bool a3] w fun e w' => e = .returned (.bool true) ∧ Below w.heap.size w w' := by
  have K_0 := Kp.refl w (fun _ => False)
  have Fz1 := w2
  obtain ⟨idv, hi⟩ : ∃ x : Int, a0 % 18446744073709551616 % 256 = x := ⟨_, rfl⟩
  obtain ⟨nin, hn⟩ : ∃ x : Int, 1 + a1 % 18446744073709551616 % 200 = x := ⟨_, rfl⟩
  have hidv : 0 ≤ idv ∧ idv < 256 := by omega
  have hnin : 1 ≤ nin ∧ nin ≤ 200 := by omega
  refine enter (args := [Value.int .i64 a0, Value.int .i64 a1, Value.slice a2 z2.length cap2, Value.bool a3]) (n := 97) Try.func3 body3 rfl rfl rfl ?_
  intro a hE
  refine c_reg R3_0_l ?_
  refine q0 p3_0_0 hE (st_assign rfl) ?_
  clear hE a; intro a hE
  refine p_nil ?_
  refine x_norm ?_
  refine c_reg R3_1_l ?_
  refine q0 p3_1_0 hE (st_move rfl) ?_
  clear hE a; intro a hE
  refine q0 p3_1_1 hE (st_conv (z := (a0 % 18446744073709551616)) (by kernel_rfl) Try.underlying23 rfl (IntKind.wrap_u64 _)) ?_
  clear hE a; intro a hE
  refine q0 p3_1_2 hE (st_rem (z := (a0 % 18446744073709551616) % 256) rfl rfl (by omega) (Int.tmod_eq_emod_of_nonneg (by omega))) ?_
  clear hE a; intro a hE
  refine q0 p3_1_3 hE (st_conv (z := idv) (by kernel_rfl) Try.underlying3 rfl (by rw [hi]; exact wr_i64 _ (by omega) (by omega))) ?_
  clear hE a; intro a hE
  refine q0 p3_1_4 hE (st_move rfl) ?_
  clear hE a; intro a hE
  refine q0 p3_1_5 hE (st_conv (z := (a1 % 18446744073709551616)) (by kernel_rfl) Try.underlying23 rfl (IntKind.wrap_u64 _)) ?_
  clear hE a; intro a hE
  refine q0 p3_1_6 hE (st_rem (z := (a1 % 18446744073709551616) % 200) rfl rfl (by omega) (Int.tmod_eq_emod_of_nonneg (by omega))) ?_
  clear hE a; intro a hE
  refine q0 p3_1_7 hE (st_conv (z := ((a1 % 18446744073709551616) % 200)) (by kernel_rfl) Try.underlying3 rfl (wr_i64 _ (by omega) (by omega))) ?_
  clear hE a; intro a hE
  refine q0 p3_1_8 hE (st_add (z := nin) rfl rfl (by rw [hn]; exact wr_i64 _ (by omega) (by omega))) ?_
  clear hE a; intro a hE
  refine q0 p3_1_9 hE (st_assign rfl) ?_
  clear hE a; intro a hE
  refine q0 p3_1_10 hE (st_assign rfl) ?_
  clear hE a; intro a hE
  refine p_nil ?_
  refine x_norm ?_
  refine c_reg R3_2_l ?_
  refine q0 p3_2_0 hE (st_build (xs := []) (vs := []) (cs := #[Value.int .i64 0, Value.map none]) rfl (by kernel_rfl)) ?_
  clear hE a; intro a hE
  refine p_cons (s_box p3_2_1 hE wn_none rfl rfl ?_)
  clear hE a; intro g1 w2 z3 B_g1 hk a hE
  replace B_g1 : w2.heap[g1]? = some (.cells #[Value.int .i64 0, Value.map none] 29 (0, 0)) := B_g1
  have z_0_g1 := Nat.le_trans K_0.kept.1 z3
  replace K_0 := K_0.then_ hk (fun _ h => h.elim)
  clear hk
  refine q0 p3_2_2 hE (st_assign rfl) ?_
  clear hE a; intro a hE
  refine p_nil ?_
  refine x_norm ?_
  refine wp_seq ?_
  refine c_reg R3_3_l ?_
  refine q0 p3_3_0 hE (st_assign rfl) ?_
  clear hE a; intro a hE
  refine p_nil ?_
  refine x_norm ?_
  refine wp_block ?_
  refine c_loop (α := Nat) (fun i a W => ∃ (mb : Option Nat), ∃ (l9 : LW), En 97 a [(0, Value.int .i64 idv), (1, Value.int .i64 nin), (2, Value.slice a2 z2.length cap2), (3, Value.bool a3), (8, Value.bool false), (9, Value.pointer (some ⟨g1, 0, none⟩)), (10, Value.int .i64 (i : Int))] ∧ (((mb = none ∧ l9 = []) ∨ ∃ gm es ck, mb = some gm ∧ W.heap[gm]? = some (.map es ck) ∧ MapI (Value.int .i64) es ck l9 ∧ g1 ≠ gm ∧ w.heap.size ≤ gm)) ∧ FrontOk l9 i ∧ i ≤ z2.length ∧ i ≤ 30 ∧ W.heap[g1]? = some (.cells #[Value.int .i64 0, Value.map mb] 29 (0, 0)) ∧ Kp w W (fun _ => False)) (fun i => z2.length - i) (0) ?_ ?_
  ·
    exact ⟨none, [], En.sub hE ⟨rfl, rfl, rfl, rfl, rfl, rfl, rfl, trivial⟩, (.inl ⟨rfl, rfl⟩), (front_nil 0), Nat.zero_le _, Nat.zero_le _, B_g1, K_0⟩
  ·
    clear hE a
    rintro i a w4 ⟨mb, l9, hE, hM, hfo, hi9, hi8, B_g1, K_0⟩
    refine wp_seq ?_
    rcases Decidable.em ((i : Int) < (z2.length : Int)) with hI1 | hI1
    ·
      rcases Decidable.em ((i : Int) < 30) with hI2 | hI2
      ·
        refine c_reg R3_4_l ?_
        refine q0 p3_4_0 hE (st_move rfl) ?_
        clear hE a; intro a hE
        refine q0 p3_4_1 hE (st_move rfl) ?_
        clear hE a; intro a hE
        refine q0 p3_4_2 hE (st_len Try.underlying22 rfl) ?_
        clear hE a; intro a hE
        refine q0 p3_4_3 hE (st_lss (b := true) rfl rfl (decide_eq_true hI1)) ?_
        clear hE a; intro a hE
        refine q0 p3_4_4 hE (st_move rfl) ?_
        clear hE a; intro a hE
        refine p_cons (s_still p3_4_5 hE (wn_some g3_4_4 rfl rfl) rfl (st_move rfl) ?_)
        clear hE a; intro a hE
        refine p_cons (s_still p3_4_6 hE (wn_some g3_4_4 rfl rfl) rfl (st_lss (b := true) rfl rfl (decide_eq_true hI2)) ?_)
        clear hE a; intro a hE
        refine q0 p3_4_7 hE (st_pick rfl rfl) ?_
        clear hE a; intro a hE
        refine p_nil ?_
        refine x_norm ?_
        refine c_cond (t := true) hE rfl ?_
        refine wp_skip ?_
        refine x_norm ?_
        refine wp_seq ?_
        refine wp_block ?_
        obtain ⟨hAe, cce, hKe, hce⟩ := C_elem (i := i) Fz1 zA (show i < z2.length by omega)
        obtain ⟨⟨xk, xa, xb⟩, hxe⟩ : ∃ x, List.getD z2 i zA = x := ⟨_, rfl⟩
        rw [hxe] at hKe
        obtain rfl := act_open hKe
        rcases Decidable.em (mb = none) with hNIL | hNIL
        ·
          subst hNIL
          obtain rfl : l9 = [] := by rcases hM with ⟨_, h⟩ | ⟨gm, es, ck, h, _⟩; exact h; cases h
          rcases Decidable.em (codeW 0 xa xb = 0) with hOKW | hOKW
          ·
            refine c_draw (S := fun W => (∀ j u, ([Value.int .i64 xk, Value.int .i64 xa, Value.int .i64 xb])[j]? = some u → W.cell? (ea a2 (i * 3 + j)) = some u) ∧ True) rfl rfl (listed := #[false, false, false, false, false, false, false, false, false, false, false, false]) rfl ?_
            intro w5 hh hk
            replace B_g1 := kp_blk B_g1 hk (fun h => h)
            replace K_0 := K_0.then_ hk (fun _ h => h.elim)
            clear hh hk
            refine d_take (v := Value.pointer (some ⟨g1, 0, none⟩)) p3_6_0 ns3_6 (by kernel_rfl) (by kernel_rfl) (fun _ _ _ h => h) hE wn_none rfl ⟨(fun j u h => cell_to K_0 (hce j u h)), trivial⟩ (fun W hS => (st_move rfl)) rfl ?_
            clear hE a; intro a hE
            refine d_take (v := Value.slice a2 z2.length cap2) p3_6_1 ns3_6 (by kernel_rfl) (by kernel_rfl) (fun _ _ _ h => h) hE wn_none rfl ⟨(fun j u h => cell_to K_0 (hce j u h)), trivial⟩ (fun W hS => (st_move rfl)) rfl ?_
            clear hE a; intro a hE
            refine d_take (v := Value.int .i64 (i : Int)) p3_6_2 ns3_6 (by kernel_rfl) (by kernel_rfl) (fun _ _ _ h => h) hE wn_none rfl ⟨(fun j u h => cell_to K_0 (hce j u h)), trivial⟩ (fun W hS => (st_move rfl)) rfl ?_
            clear hE a; intro a hE
            refine d_take (v := Value.pointer (some (ea a2 (i * 3)))) p3_6_3 ns3_6 (by kernel_rfl) (by kernel_rfl) (fun _ _ _ h => h) hE wn_none rfl ⟨(fun j u h => cell_to K_0 (hce j u h)), trivial⟩ (fun W hS => (st_indexAddrR (i := i) (s := 3) Try.underlying22 tS33 hAe rfl rfl (by omega))) rfl ?_
            clear hE a; intro a hE
            refine d_take (v := Value.pointer (some (ea a2 (i * 3 + 1)))) p3_6_4 ns3_6 (by kernel_rfl) (by kernel_rfl) (fun _ _ _ h => h) hE wn_none rfl ⟨(fun j u h => cell_to K_0 (hce j u h)), trivial⟩ (fun W hS => (st_fieldAddrR (off := i * 3) (f0 := 1) (o' := i * 3 + 1) Try.underlying33 rfl tS3 rfl (by omega) rfl)) rfl ?_
            clear hE a; intro a hE
            refine d_take (v := Value.int .i64 xa) p3_6_5 ns3_6 (by kernel_rfl) (by kernel_rfl) (fun _ _ _ h => h) hE wn_none rfl ⟨(fun j u h => cell_to K_0 (hce j u h)), trivial⟩ (fun W hS => (st_loadR1 (off := i * 3) (j := 1) tA3 (hS.1) rfl (by omega) rfl)) rfl ?_
            clear hE a; intro a hE
            refine d_take (v := Value.slice a2 z2.length cap2) p3_6_6 ns3_6 (by kernel_rfl) (by kernel_rfl) (fun _ _ _ h => h) hE wn_none rfl ⟨(fun j u h => cell_to K_0 (hce j u h)), trivial⟩ (fun W hS => (st_move rfl)) rfl ?_
            clear hE a; intro a hE
            refine d_take (v := Value.int .i64 (i : Int)) p3_6_7 ns3_6 (by kernel_rfl) (by kernel_rfl) (fun _ _ _ h => h) hE wn_none rfl ⟨(fun j u h => cell_to K_0 (hce j u h)), trivial⟩ (fun W hS => (st_move rfl)) rfl ?_
            clear hE a; intro a hE
            refine d_take (v := Value.pointer (some (ea a2 (i * 3)))) p3_6_8 ns3_6 (by kernel_rfl) (by kernel_rfl) (fun _ _ _ h => h) hE wn_none rfl ⟨(fun j u h => cell_to K_0 (hce j u h)), trivial⟩ (fun W hS => (st_indexAddrR (i := i) (s := 3) Try.underlying22 tS33 hAe rfl rfl (by omega))) rfl ?_
            clear hE a; intro a hE
            refine d_take (v := Value.pointer (some (ea a2 (i * 3 + 2)))) p3_6_9 ns3_6 (by kernel_rfl) (by kernel_rfl) (fun _ _ _ h => h) hE wn_none rfl ⟨(fun j u h => cell_to K_0 (hce j u h)), trivial⟩ (fun W hS => (st_fieldAddrR (off := i * 3) (f0 := 2) (o' := i * 3 + 2) Try.underlying33 rfl tS3 rfl (by omega) rfl)) rfl ?_
            clear hE a; intro a hE
            refine d_take (v := Value.int .i64 xb) p3_6_10 ns3_6 (by kernel_rfl) (by kernel_rfl) (fun _ _ _ h => h) hE wn_none rfl ⟨(fun j u h => cell_to K_0 (hce j u h)), trivial⟩ (fun W hS => (st_loadR1 (off := i * 3) (j := 2) tA3 (hS.1) rfl (by omega) rfl)) rfl ?_
            clear hE a; intro a hE
            refine d_one (by kernel_rfl) rfl (s_call (xs := [Operand.tmp 36, Operand.tmp 41, Operand.tmp 46]) (args := [Value.pointer (some ⟨g1, 0, none⟩), Value.int .i64 xa, Value.int .i64 xb]) p3_6_11 hE wn_none rfl rfl Try.func8 cl8 (set_nil_ok g1 0 xa xb _ ⟨by decide, by decide⟩ hOKW B_g1) ?_)
            rintro e w11 ⟨gm6, es7, ck8, rfl, z9, B_g1', B_gm6, MF10, hk⟩
            have n_g1_gm6 : g1 ≠ gm6 := ne_new B_g1 z9
            have z_0_gm6 := Nat.le_trans K_0.kept.1 z9
            replace K_0 := K_0.then_ hk (fun k h => by rw [show k = g1 from h]; exact Or.inr z_0_g1)
            replace B_g1 := B_g1'
            refine ⟨_, rfl, ?_⟩
            clear hE a; intro a hE
            refine ⟨⟨(fun j u h => cell_to K_0 (hce j u h)), trivial⟩, ?_⟩
            refine d_end (by kernel_rfl) ?_
            refine x_normB ?_
            refine x_norm ?_
            refine c_regL R3_5_l ?_
            refine q0 p3_5_0 hE (st_move rfl) ?_
            clear hE a; intro a hE
            refine q0 p3_5_1 hE (st_add (z := (i : Int) + 1) rfl rfl (wr_i64 _ (by omega) (by omega))) ?_
            clear hE a; intro a hE
            refine q0 p3_5_2 hE (st_assign rfl) ?_
            clear hE a; intro a hE
            refine p_nil ?_
            refine x_norm ?_
            have hM9 : (some gm6 = none ∧ (setW [] 0 xa xb) = []) ∨ ∃ gm es ck, some gm6 = some gm ∧ w11.heap[gm]? = some (.map es ck) ∧ MapI (Value.int .i64) es ck (setW [] 0 xa xb) ∧ g1 ≠ gm ∧ w.heap.size ≤ gm := .inr ⟨gm6, es7, ck8, rfl, B_gm6, MF10, n_g1_gm6, z_0_gm6⟩
            have hfo9 := front_set (x := xa) (n := xb) hfo
            exact ⟨i + 1, by omega, (some gm6), (setW [] 0 xa xb), En.sub hE ⟨rfl, rfl, rfl, rfl, rfl, rfl, rfl, trivial⟩, hM9, hfo9, by omega, by omega, B_g1, K_0⟩
          ·
            refine c_draw (S := fun W => (∀ j u, ([Value.int .i64 xk, Value.int .i64 xa, Value.int .i64 xb])[j]? = some u → W.cell? (ea a2 (i * 3 + j)) = some u) ∧ True) rfl rfl (listed := #[false, false, false, false, false, false, false, false, false, false, false, false]) rfl ?_
            intro w12 hh hk
            replace B_g1 := kp_blk B_g1 hk (fun h => h)
            replace K_0 := K_0.then_ hk (fun _ h => h.elim)
            clear hh hk
            refine d_take (v := Value.pointer (some ⟨g1, 0, none⟩)) p3_6_0 ns3_6 (by kernel_rfl) (by kernel_rfl) (fun _ _ _ h => h) hE wn_none rfl ⟨(fun j u h => cell_to K_0 (hce j u h)), trivial⟩ (fun W hS => (st_move rfl)) rfl ?_
            clear hE a; intro a hE
            refine d_take (v := Value.slice a2 z2.length cap2) p3_6_1 ns3_6 (by kernel_rfl) (by kernel_rfl) (fun _ _ _ h => h) hE wn_none rfl ⟨(fun j u h => cell_to K_0 (hce j u h)), trivial⟩ (fun W hS => (st_move rfl)) rfl ?_
            clear hE a; intro a hE
            refine d_take (v := Value.int .i64 (i : Int)) p3_6_2 ns3_6 (by kernel_rfl) (by kernel_rfl) (fun _ _ _ h => h) hE wn_none rfl ⟨(fun j u h => cell_to K_0 (hce j u h)), trivial⟩ (fun W hS => (st_move rfl)) rfl ?_
            clear hE a; intro a hE
            refine d_take (v := Value.pointer (some (ea a2 (i * 3)))) p3_6_3 ns3_6 (by kernel_rfl) (by kernel_rfl) (fun _ _ _ h => h) hE wn_none rfl ⟨(fun j u h => cell_to K_0 (hce j u h)), trivial⟩ (fun W hS => (st_indexAddrR (i := i) (s := 3) Try.underlying22 tS33 hAe rfl rfl (by omega))) rfl ?_
            clear hE a; intro a hE
            refine d_take (v := Value.pointer (some (ea a2 (i * 3 + 1)))) p3_6_4 ns3_6 (by kernel_rfl) (by kernel_rfl) (fun _ _ _ h => h) hE wn_none rfl ⟨(fun j u h => cell_to K_0 (hce j u h)), trivial⟩ (fun W hS => (st_fieldAddrR (off := i * 3) (f0 := 1) (o' := i * 3 + 1) Try.underlying33 rfl tS3 rfl (by omega) rfl)) rfl ?_
            clear hE a; intro a hE
            refine d_take (v := Value.int .i64 xa) p3_6_5 ns3_6 (by kernel_rfl) (by kernel_rfl) (fun _ _ _ h => h) hE wn_none rfl ⟨(fun j u h => cell_to K_0 (hce j u h)), trivial⟩ (fun W hS => (st_loadR1 (off := i * 3) (j := 1) tA3 (hS.1) rfl (by omega) rfl)) rfl ?_
            clear hE a; intro a hE
            refine d_take (v := Value.slice a2 z2.length cap2) p3_6_6 ns3_6 (by kernel_rfl) (by kernel_rfl) (fun _ _ _ h => h) hE wn_none rfl ⟨(fun j u h => cell_to K_0 (hce j u h)), trivial⟩ (fun W hS => (st_move rfl)) rfl ?_
            clear hE a; intro a hE
            refine d_take (v := Value.int .i64 (i : Int)) p3_6_7 ns3_6 (by kernel_rfl) (by kernel_rfl) (fun _ _ _ h => h) hE wn_none rfl ⟨(fun j u h => cell_to K_0 (hce j u h)), trivial⟩ (fun W hS => (st_move rfl)) rfl ?_
            clear hE a; intro a hE
            refine d_take (v := Value.pointer (some (ea a2 (i * 3)))) p3_6_8 ns3_6 (by kernel_rfl) (by kernel_rfl) (fun _ _ _ h => h) hE wn_none rfl ⟨(fun j u h => cell_to K_0 (hce j u h)), trivial⟩ (fun W hS => (st_indexAddrR (i := i) (s := 3) Try.underlying22 tS33 hAe rfl rfl (by omega))) rfl ?_
            clear hE a; intro a hE
            refine d_take (v := Value.pointer (some (ea a2 (i * 3 + 2)))) p3_6_9 ns3_6 (by kernel_rfl) (by kernel_rfl) (fun _ _ _ h => h) hE wn_none rfl ⟨(fun j u h => cell_to K_0 (hce j u h)), trivial⟩ (fun W hS => (st_fieldAddrR (off := i * 3) (f0 := 2) (o' := i * 3 + 2) Try.underlying33 rfl tS3 rfl (by omega) rfl)) rfl ?_
            clear hE a; intro a hE
            refine d_take (v := Value.int .i64 xb) p3_6_10 ns3_6 (by kernel_rfl) (by kernel_rfl) (fun _ _ _ h => h) hE wn_none rfl ⟨(fun j u h => cell_to K_0 (hce j u h)), trivial⟩ (fun W hS => (st_loadR1 (off := i * 3) (j := 2) tA3 (hS.1) rfl (by omega) rfl)) rfl ?_
            clear hE a; intro a hE
            refine d_one (by kernel_rfl) rfl (s_call (xs := [Operand.tmp 36, Operand.tmp 41, Operand.tmp 46]) (args := [Value.pointer (some ⟨g1, 0, none⟩), Value.int .i64 xa, Value.int .i64 xb]) p3_6_11 hE wn_none rfl rfl Try.func8 cl8 (set_nil_no g1 0 xa xb _ ⟨by decide, by decide⟩ hOKW B_g1) ?_)
            rintro e w13 ⟨rfl, B_g1', hk⟩
            replace K_0 := K_0.then_ hk (fun k h => by rw [show k = g1 from h]; exact Or.inr z_0_g1)
            replace B_g1 := B_g1'
            refine ⟨_, rfl, ?_⟩
            clear hE a; intro a hE
            refine ⟨⟨(fun j u h => cell_to K_0 (hce j u h)), trivial⟩, ?_⟩
            refine d_end (by kernel_rfl) ?_
            refine x_normB ?_
            refine x_norm ?_
            refine c_regL R3_5_l ?_
            refine q0 p3_5_0 hE (st_move rfl) ?_
            clear hE a; intro a hE
            refine q0 p3_5_1 hE (st_add (z := (i : Int) + 1) rfl rfl (wr_i64 _ (by omega) (by omega))) ?_
            clear hE a; intro a hE
            refine q0 p3_5_2 hE (st_assign rfl) ?_
            clear hE a; intro a hE
            refine p_nil ?_
            refine x_norm ?_
            have hM9 : ((none : Option Nat) = none ∧ ([] : LW) = []) ∨ ∃ gm es ck, none = some gm ∧ w13.heap[gm]? = some (.map es ck) ∧ MapI (Value.int .i64) es ck [] ∧ g1 ≠ gm ∧ w.heap.size ≤ gm := .inl ⟨rfl, rfl⟩
            have hfo9 := front_nil (i + 1)
            exact ⟨i + 1, by omega, none, [], En.sub hE ⟨rfl, rfl, rfl, rfl, rfl, rfl, rfl, trivial⟩, hM9, hfo9, by omega, by omega, B_g1, K_0⟩
        ·
          obtain ⟨gm9, es8, ck8, rfl, B_gm9, MF8, n_g1_gm9, z_0_gm9⟩ := hM.resolve_left (fun h => hNIL h.1)
          refine c_draw (S := fun W => (∀ j u, ([Value.int .i64 xk, Value.int .i64 xa, Value.int .i64 xb])[j]? = some u → W.cell? (ea a2 (i * 3 + j)) = some u) ∧ True) rfl rfl (listed := #[false, false, false, false, false, false, false, false, false, false, false, false]) rfl ?_
          intro w14 hh hk
          replace B_g1 := kp_blk B_g1 hk (fun h => h)
          replace B_gm9 := kp_blk B_gm9 hk (fun h => h)
          replace K_0 := K_0.then_ hk (fun _ h => h.elim)
          clear hh hk
          refine d_take (v := Value.pointer (some ⟨g1, 0, none⟩)) p3_6_0 ns3_6 (by kernel_rfl) (by kernel_rfl) (fun _ _ _ h => h) hE wn_none rfl ⟨(fun j u h => cell_to K_0 (hce j u h)), trivial⟩ (fun W hS => (st_move rfl)) rfl ?_
          clear hE a; intro a hE
          refine d_take (v := Value.slice a2 z2.length cap2) p3_6_1 ns3_6 (by kernel_rfl) (by kernel_rfl) (fun _ _ _ h => h) hE wn_none rfl ⟨(fun j u h => cell_to K_0 (hce j u h)), trivial⟩ (fun W hS => (st_move rfl)) rfl ?_
          clear hE a; intro a hE
          refine d_take (v := Value.int .i64 (i : Int)) p3_6_2 ns3_6 (by kernel_rfl) (by kernel_rfl) (fun _ _ _ h => h) hE wn_none rfl ⟨(fun j u h => cell_to K_0 (hce j u h)), trivial⟩ (fun W hS => (st_move rfl)) rfl ?_
          clear hE a; intro a hE
          refine d_take (v := Value.pointer (some (ea a2 (i * 3)))) p3_6_3 ns3_6 (by kernel_rfl) (by kernel_rfl) (fun _ _ _ h => h) hE wn_none rfl ⟨(fun j u h => cell_to K_0 (hce j u h)), trivial⟩ (fun W hS => (st_indexAddrR (i := i) (s := 3) Try.underlying22 tS33 hAe rfl rfl (by omega))) rfl ?_
          clear hE a; intro a hE
          refine d_take (v := Value.pointer (some (ea a2 (i * 3 + 1)))) p3_6_4 ns3_6 (by kernel_rfl) (by kernel_rfl) (fun _ _ _ h => h) hE wn_none rfl ⟨(fun j u h => cell_to K_0 (hce j u h)), trivial⟩ (fun W hS => (st_fieldAddrR (off := i * 3) (f0 := 1) (o' := i * 3 + 1) Try.underlying33 rfl tS3 rfl (by omega) rfl)) rfl ?_
          clear hE a; intro a hE
          refine d_take (v := Value.int .i64 xa) p3_6_5 ns3_6 (by kernel_rfl) (by kernel_rfl) (fun _ _ _ h => h) hE wn_none rfl ⟨(fun j u h => cell_to K_0 (hce j u h)), trivial⟩ (fun W hS => (st_loadR1 (off := i * 3) (j := 1) tA3 (hS.1) rfl (by omega) rfl)) rfl ?_
          clear hE a; intro a hE
          refine d_take (v := Value.slice a2 z2.length cap2) p3_6_6 ns3_6 (by kernel_rfl) (by kernel_rfl) (fun _ _ _ h => h) hE wn_none rfl ⟨(fun j u h => cell_to K_0 (hce j u h)), trivial⟩ (fun W hS => (st_move rfl)) rfl ?_
          clear hE a; intro a hE
          refine d_take (v := Value.int .i64 (i : Int)) p3_6_7 ns3_6 (by kernel_rfl) (by kernel_rfl) (fun _ _ _ h => h) hE wn_none rfl ⟨(fun j u h => cell_to K_0 (hce j u h)), trivial⟩ (fun W hS => (st_move rfl)) rfl ?_
          clear hE a; intro a hE
          refine d_take (v := Value.pointer (some (ea a2 (i * 3)))) p3_6_8 ns3_6 (by kernel_rfl) (by kernel_rfl) (fun _ _ _ h => h) hE wn_none rfl ⟨(fun j u h => cell_to K_0 (hce j u h)), trivial⟩ (fun W hS => (st_indexAddrR (i := i) (s := 3) Try.underlying22 tS33 hAe rfl rfl (by omega))) rfl ?_
          clear hE a; intro a hE
          refine d_take (v := Value.pointer (some (ea a2 (i * 3 + 2)))) p3_6_9 ns3_6 (by kernel_rfl) (by kernel_rfl) (fun _ _ _ h => h) hE wn_none rfl ⟨(fun j u h => cell_to K_0 (hce j u h)), trivial⟩ (fun W hS => (st_fieldAddrR (off := i * 3) (f0 := 2) (o' := i * 3 + 2) Try.underlying33 rfl tS3 rfl (by omega) rfl)) rfl ?_
          clear hE a; intro a hE
          refine d_take (v := Value.int .i64 xb) p3_6_10 ns3_6 (by kernel_rfl) (by kernel_rfl) (fun _ _ _ h => h) hE wn_none rfl ⟨(fun j u h => cell_to K_0 (hce j u h)), trivial⟩ (fun W hS => (st_loadR1 (off := i * 3) (j := 2) tA3 (hS.1) rfl (by omega) rfl)) rfl ?_
          clear hE a; intro a hE
          refine d_one (by kernel_rfl) rfl (s_call (xs := [Operand.tmp 36, Operand.tmp 41, Operand.tmp 46]) (args := [Value.pointer (some ⟨g1, 0, none⟩), Value.int .i64 xa, Value.int .i64 xb]) p3_6_11 hE wn_none rfl rfl Try.func8 cl8 (set_map g1 gm9 ck8 es8 l9 0 xa xb _ ⟨by decide, by decide⟩ B_g1 B_gm9 MF8 n_g1_gm9) ?_)
          rintro e w16 ⟨esm15, ckm15, rfl, MFm15, B_gm9', hk⟩
          replace B_g1 := kp_blk B_g1 hk n_g1_gm9
          replace K_0 := K_0.then_ hk (fun k h => by rw [show k = gm9 from h]; exact Or.inr z_0_gm9)
          replace B_gm9 := B_gm9'
          refine ⟨_, rfl, ?_⟩
          clear hE a; intro a hE
          refine ⟨⟨(fun j u h => cell_to K_0 (hce j u h)), trivial⟩, ?_⟩
          refine d_end (by kernel_rfl) ?_
          refine x_normB ?_
          refine x_norm ?_
          refine c_regL R3_5_l ?_
          refine q0 p3_5_0 hE (st_move rfl) ?_
          clear hE a; intro a hE
          refine q0 p3_5_1 hE (st_add (z := (i : Int) + 1) rfl rfl (wr_i64 _ (by omega) (by omega))) ?_
          clear hE a; intro a hE
          refine q0 p3_5_2 hE (st_assign rfl) ?_
          clear hE a; intro a hE
          refine p_nil ?_
          refine x_norm ?_
          have hM9 : (some gm9 = none ∧ (setW l9 0 xa xb) = []) ∨ ∃ gm es ck, some gm9 = some gm ∧ w16.heap[gm]? = some (.map es ck) ∧ MapI (Value.int .i64) es ck (setW l9 0 xa xb) ∧ g1 ≠ gm ∧ w.heap.size ≤ gm := .inr ⟨gm9, esm15, ckm15, rfl, B_gm9, MFm15, n_g1_gm9, z_0_gm9⟩
          have hfo9 := front_set (x := xa) (n := xb) hfo
          exact ⟨i + 1, by omega, (some gm9), (setW l9 0 xa xb), En.sub hE ⟨rfl, rfl, rfl, rfl, rfl, rfl, rfl, trivial⟩, hM9, hfo9, by omega, by omega, B_g1, K_0⟩
      ·
        refine c_reg R3_4_l ?_
        refine q0 p3_4_0 hE (st_move rfl) ?_
        clear hE a; intro a hE
        refine q0 p3_4_1 hE (st_move rfl) ?_
        clear hE a; intro a hE
        refine q0 p3_4_2 hE (st_len Try.underlying22 rfl) ?_
        clear hE a; intro a hE
        refine q0 p3_4_3 hE (st_lss (b := true) rfl rfl (decide_eq_true hI1)) ?_
        clear hE a; intro a hE
        refine q0 p3_4_4 hE (st_move rfl) ?_
        clear hE a; intro a hE
        refine p_cons (s_still p3_4_5 hE (wn_some g3_4_4 rfl rfl) rfl (st_move rfl) ?_)
        clear hE a; intro a hE
        refine p_cons (s_still p3_4_6 hE (wn_some g3_4_4 rfl rfl) rfl (st_lss (b := false) rfl rfl (decide_eq_false hI2)) ?_)
        clear hE a; intro a hE
        refine q0 p3_4_7 hE (st_pick rfl rfl) ?_
        clear hE a; intro a hE
        refine p_nil ?_
        refine x_norm ?_
        refine c_cond (t := false) hE rfl ?_
        refine wp_exit ?_
        refine x_exit ?_
        refine x_exit ?_
        refine x_in ?_
        refine x_norm ?_
        have hE2 : En 97 a [(0, Value.int .i64 idv), (1, Value.int .i64 nin), (3, Value.bool a3), (9, Value.pointer (some ⟨g1, 0, none⟩))] := En.sub hE ⟨rfl, rfl, rfl, rfl, trivial⟩
        exact once7 w w4 g1 mb l9 B_g1 hM ⟨by have := hfo.1; omega, hfo.2⟩ z_0_g1 K_0 idv nin hidv hnin a3 (fun W' hk => ⟨rfl, hk.to (Nat.le_refl _) (fun _ h => h.elim)⟩) _ hE2
    ·
      refine c_reg R3_4_l ?_
      refine q0 p3_4_0 hE (st_move rfl) ?_
      clear hE a; intro a hE
      refine q0 p3_4_1 hE (st_move rfl) ?_
      clear hE a; intro a hE
      refine q0 p3_4_2 hE (st_len Try.underlying22 rfl) ?_
      clear hE a; intro a hE
      refine q0 p3_4_3 hE (st_lss (b := false) rfl rfl (decide_eq_false hI1)) ?_
      clear hE a; intro a hE
      refine q0 p3_4_4 hE (st_move rfl) ?_
      clear hE a; intro a hE
      refine p_cons (s_skip p3_4_5 hE (wn_some g3_4_4 rfl rfl) rfl ?_)
      clear hE a; intro a hE
      refine p_cons (s_skip p3_4_6 hE (wn_some g3_4_4 rfl rfl) rfl ?_)
      clear hE a; intro a hE
      refine q0 p3_4_7 hE (st_pick rfl rfl) ?_
      clear hE a; intro a hE
      refine p_nil ?_
      refine x_norm ?_
      refine c_cond (t := false) hE rfl ?_
      refine wp_exit ?_
      refine x_exit ?_
      refine x_exit ?_
      refine x_in ?_
      refine x_norm ?_
      have hE2 : En 97 a [(0, Value.int .i64 idv), (1, Value.int .i64 nin), (3, Value.bool a3), (9, Value.pointer (some ⟨g1, 0, none⟩))] := En.sub hE ⟨rfl, rfl, rfl, rfl, trivial⟩
      exact once7 w w4 g1 mb l9 B_g1 hM ⟨by have := hfo.1; omega, hfo.2⟩ z_0_g1 K_0 idv nin hidv hnin a3 (fun W' hk => ⟨rfl, hk.to (Nat.le_refl _) (fun _ h => h.elim)⟩) _ hE2
end Go.Proofs.Ytlmjbmeigclihaa.Wo
