/- Layer 20: known, UplinkTries. -/
import Derived.Test.YtlmjbmeigclihaaUpl
import Derived.Test.YtlmjbmeigclihaaKdOpen
set_option maxRecDepth 100000
set_option linter.unusedVariables false
set_option linter.unusedSimpArgs false
namespace Go.Proofs.Ytlmjbmeigclihaa.Ut
open Go.RowKit Go.Proofs.YtlmjbmeigclihaaW.PrintWords Go.Proofs.Ytlmjbmeigclihaa.Ds Go.Proofs.Ytlmjbmeigclihaa.Up
open Go.Proofs.Ytlmjbmeigclihaa.Pk (Kp)
open Go.Proofs.Ytlmjbmeigclihaa.Mi (st_eqlP st_neqP x_normS x_retS x_exitS MapI getI putI delI)
theorem ks_nil : Ms.ks ([] : LO) = [] := by unfold Ms.ks; exact List.mergeSort_nil
theorem ks_one (s : Int) (v : Int × Int) : Ms.ks [(s, v)] = [s] := by unfold Ms.ks; exact List.mergeSort_singleton s
theorem due_nil (wt tr now : Int) : dueS wt tr now [] = ⟨[], [], []⟩ := by unfold dueS; rw [ks_nil]; split <;> rfl
theorem at0_one (s : Int) (v : Int × Int) : at0 [(s, v)] s = v := by unfold at0; unfold getI; rw [if_pos rfl]; rfl
theorem due_one (wt tr now s d k : Int) (ht : timeB now = true) : dueS wt tr now [(s, (d, k))] = stepD wt tr now ⟨[], [], [(s, (d, k))]⟩ s := by unfold dueS; rw [ht, if_pos rfl, ks_one]; rfl
theorem due_late {wt tr now s d k : Int} (ht : timeB now = true) (h : now < d) : dueS wt tr now [(s, (d, k))] = ⟨[], [], [(s, (d, k))]⟩ := by
  rw [due_one _ _ _ _ _ _ ht]; unfold stepD; rw [at0_one, if_pos h]
theorem due_lost {wt tr now s d k : Int} (ht : timeB now = true) (h : ¬ now < d) (h2 : tr ≤ k) : dueS wt tr now [(s, (d, k))] = ⟨[], [s], []⟩ := by
  rw [due_one _ _ _ _ _ _ ht]; unfold stepD; rw [at0_one, if_neg h, if_pos h2]
  show (⟨[], [s], delI [(s, (d, k))] s⟩ : St) = _
  unfold delI; rw [if_pos rfl]
theorem due_again {wt tr now s d k : Int} (ht : timeB now = true) (h : ¬ now < d) (h2 : ¬ tr ≤ k) : dueS wt tr now [(s, (d, k))] = ⟨[s], [], [(s, (now + wt, k + 1))]⟩ := by
  rw [due_one _ _ _ _ _ _ ht]; unfold stepD; rw [at0_one, if_neg h, if_neg h2]
  show (⟨[s], [], putI [(s, (d, k))] s (now + wt, k + 1)⟩ : St) = _
  unfold putI; rw [if_pos rfl]
theorem k1 : dueS 5 2 5 [(7, (5, 1))] = ⟨[7], [], [(7, (10, 2))]⟩ := due_again rfl (by decide) (by decide)
theorem k2 : dueS 5 2 10 [(7, (10, 2))] = ⟨[], [7], []⟩ := due_lost rfl (by decide) (by decide)
theorem ok_one {s d k : Int} (h1 : 0 ≤ s ∧ s < 256) (h2 : 0 ≤ d ∧ d ≤ 2305843009213693952) (h3 : 1 ≤ k ∧ k ≤ 16) : Ok [(s, (d, k))] := fun p hp => by
  rw [List.mem_singleton.1 hp]; exact ⟨h1, h2, h3.1, h3.2⟩
theorem ok_nil : Ok [] := fun p hp => by cases hp
/-- One that is never acknowledged: t is the next tick. -/
def Inv (wt tr s : Int) (t : Nat) (l : LO) (sn gn : Int) : Prop :=
  (∃ k D, l = [(s, (D, k))] ∧ sn = k ∧ gn = 0 ∧ 1 ≤ k ∧ k ≤ tr ∧ D = k * wt ∧ (t : Int) ≤ D) ∨ (l = [] ∧ sn = tr ∧ gn = 1)
theorem inv_next {wt tr s : Int} {t : Nat} {l : LO} {sn gn : Int} (hwt : 1 ≤ wt) (ht : timeB (t : Int) = true) (h : Inv wt tr s t l sn gn) :
    Inv wt tr s (t + 1) (dueS wt tr t l).l (sn + ((dueS wt tr t l).again.length : Int)) (gn + ((dueS wt tr t l).lost.length : Int)) ∧ (dueS wt tr t l).again.length ≤ 1 ∧ (dueS wt tr t l).lost.length ≤ 1 := by
  rcases h with ⟨k, D, rfl, rfl, rfl, h1, h2, hD, hle⟩ | ⟨rfl, rfl, rfl⟩
  · by_cases hl : (t : Int) < D
    · rw [due_late ht hl]
      exact ⟨.inl ⟨_, D, rfl, by simp, by simp, h1, h2, hD, by omega⟩, by simp, by simp⟩
    · by_cases ho : tr ≤ sn
      · rw [due_lost ht hl ho]
        exact ⟨.inr ⟨rfl, by simp; omega, by simp⟩, by simp, by simp⟩
      · rw [due_again ht hl ho]
        refine ⟨.inl ⟨sn + 1, _, rfl, by simp, by simp, by omega, by omega, ?_, ?_⟩, by simp, by simp⟩
        · rw [Int.add_mul, Int.one_mul, ← hD]; omega
        · omega
  · rw [due_nil]
    exact ⟨.inr ⟨rfl, by simp, by simp⟩, by simp, by simp⟩
theorem inv_end {wt tr s : Int} {t : Nat} {l : LO} {sn gn : Int} (hwt : 1 ≤ wt) (htr : 0 ≤ tr) (hd : ¬ (t : Int) ≤ wt * (tr + 2)) (h : Inv wt tr s t l sn gn) : l = [] ∧ sn = tr ∧ gn = 1 := by
  rcases h with ⟨k, D, rfl, rfl, rfl, h1, h2, hD, hle⟩ | h
  · exfalso
    have h3 : sn * wt ≤ tr * wt := Int.mul_le_mul_of_nonneg_right h2 (by omega)
    have h4 : wt * (tr + 2) = tr * wt + wt * 2 := by rw [Int.mul_add, Int.mul_comm wt tr]
    omega
  · exact h
theorem inv_ok {wt tr s : Int} {t : Nat} {l : LO} {sn gn : Int} (hwt : 1 ≤ wt ∧ wt ≤ 20) (htr : tr ≤ 16) (hs : 0 ≤ s ∧ s < 256) (h : Inv wt tr s t l sn gn) : Ok l ∧ (0 ≤ sn ∨ sn = tr) ∧ sn ≤ 16 ∧ 0 ≤ gn ∧ gn ≤ 1 := by
  rcases h with ⟨k, D, rfl, rfl, rfl, h1, h2, hD, hle⟩ | ⟨rfl, rfl, rfl⟩
  · have h5 : 0 ≤ sn * wt := Int.mul_nonneg (by omega) (by omega)
    have h6 : sn * wt ≤ 16 * wt := Int.mul_le_mul_of_nonneg_right (by omega) (by omega)
    exact ⟨ok_one hs ⟨by omega, by omega⟩ ⟨h1, by omega⟩, .inl (by omega), by omega, by omega, by omega⟩
  · exact ⟨ok_nil, .inr rfl, htr, by omega, by omega⟩
theorem send_yes (g gm ck : Nat) (es : Array MapEntry) (l : List (Int × (Int × Int))) (wt tr : Int) (s now : Int) (w : World) (hw : 0 ≤ wt ∧ wt ≤ 1048576) (hok : okS s now = true) {l' : LO} (hl' : l' = putI l s (now + wt, 1)) (hg : w.heap[g]? = some (.cells #[.int .i64 wt, .int .i64 tr, .map (some gm)] 82 (0, 0))) (hm : w.heap[gm]? = some (.map es ck)) (hF : MapI encO es ck l) (hne : g ≠ gm) : Calls Try.prog 23 #[.pointer (some ⟨g, 0, none⟩), .int .i64 s, .int .i64 now] w fun e w' => ∃ es' ck', e = .returned (.int .i64 0) ∧ MapI encO es' ck' l' ∧ w'.heap[gm]? = some (.map es' ck') ∧ Kp w w' (fun k => k = gm) := by
  have := send_any g gm ck es l wt tr s now w hw hg hm hF hne
  unfold sendL at this
  rw [hok, if_pos rfl, ← hl'] at this
  exact this
theorem ack_no (g gm ck : Nat) (es : Array MapEntry) (l : List (Int × (Int × Int))) (wt tr : Int) (s : Int) (w : World) (hno : (getI l s).isSome = false) (hg : w.heap[g]? = some (.cells #[.int .i64 wt, .int .i64 tr, .map (some gm)] 82 (0, 0))) (hm : w.heap[gm]? = some (.map es ck)) (hF : MapI encO es ck l) (hne : g ≠ gm) : Calls Try.prog 27 #[.pointer (some ⟨g, 0, none⟩), .int .i64 s] w fun e w' => ∃ es' ck', e = .returned (.bool false) ∧ MapI encO es' ck' (delI l s) ∧ w'.heap[gm]? = some (.map es' ck') ∧ Kp w w' (fun k => k = gm) := by
  have := ack_any g gm ck es l wt tr s w hg hm hF hne
  rw [hno] at this
  exact this
theorem R15_0_l : List.range (regOf Try.f15 0).size = [0] := by kernel_rfl
theorem R15_1_l : List.range (regOf Try.f15 1).size = [0, 1, 2, 3, 4] := by kernel_rfl
theorem R15_2_l : List.range (regOf Try.f15 2).size = [0] := by kernel_rfl
theorem R15_3_l : List.range (regOf Try.f15 3).size = [0] := by kernel_rfl
theorem R15_4_l : List.range (regOf Try.f15 4).size = [0, 1, 2, 3] := by kernel_rfl
theorem R15_6_l : List.range (regOf Try.f15 6).size = [0, 1, 2, 3, 4, 5, 6, 7, 8] := by kernel_rfl
theorem R15_7_l : List.range (regOf Try.f15 7).size = [0] := by kernel_rfl
theorem R15_5_l : List.range (regOf Try.f15 5).size = [0, 1, 2] := by kernel_rfl
theorem R15_8_l : List.range (regOf Try.f15 8).size = [0] := by kernel_rfl
theorem body15 : Try.f15.body = some (.seq (.region 0 (regOf Try.f15 0) false) (.seq (.seq (.region 1 (regOf Try.f15 1) false) (.cond (Operand.tmp 10) (.seq (.region 2 (regOf Try.f15 2) false) (.ret)) (.skip))) (.seq (.seq (.region 3 (regOf Try.f15 3) false) (.block 0 (.loop (.seq (.seq (.region 4 (regOf Try.f15 4) false) (.cond (Operand.tmp 14) (.skip) (.exit 0))) (.seq (.block 1 (.seq (.region 6 (regOf Try.f15 6) true) (.cond (Operand.tmp 25) (.seq (.region 7 (regOf Try.f15 7) false) (.ret)) (.skip)))) (.region 5 (regOf Try.f15 5) false)))))) (.seq (.region 8 (regOf Try.f15 8) false) (.ret))))) := by kernel_rfl
theorem p15_0_0 : pj (regOf Try.f15 0) 0 = some (some 4, .assign (.const (.bool false)), 4, none) := by kernel_rfl
theorem p15_1_0 : pj (regOf Try.f15 1) 0 = some (some 6, .move (.tmp 0), 35, none) := by kernel_rfl
theorem p15_1_1 : pj (regOf Try.f15 1) 1 = some (some 7, .call { callee := .builtin .len, args := #[.tmp 6], argTypes := #[35] }, 3, none) := by kernel_rfl
theorem p15_1_2 : pj (regOf Try.f15 1) 2 = some (some 8, .move (.tmp 1), 35, none) := by kernel_rfl
theorem p15_1_3 : pj (regOf Try.f15 1) 3 = some (some 9, .call { callee := .builtin .len, args := #[.tmp 8], argTypes := #[35] }, 3, none) := by kernel_rfl
theorem p15_1_4 : pj (regOf Try.f15 1) 4 = some (some 10, .binOp .neq 3 (.tmp 7) (.tmp 9) 3, 4, none) := by kernel_rfl
theorem p15_3_0 : pj (regOf Try.f15 3) 0 = some (some 5, .assign (.const (.int .i64 0)), 3, none) := by kernel_rfl
theorem p15_4_0 : pj (regOf Try.f15 4) 0 = some (some 11, .move (.tmp 5), 3, none) := by kernel_rfl
theorem p15_4_1 : pj (regOf Try.f15 4) 1 = some (some 12, .move (.tmp 0), 35, none) := by kernel_rfl
theorem p15_4_2 : pj (regOf Try.f15 4) 2 = some (some 13, .call { callee := .builtin .len, args := #[.tmp 12], argTypes := #[35] }, 3, none) := by kernel_rfl
theorem p15_4_3 : pj (regOf Try.f15 4) 3 = some (some 14, .binOp .lss 3 (.tmp 11) (.tmp 13) 3, 4, none) := by kernel_rfl
theorem ns15_6 : Region.noSelect (regOf Try.f15 6) = true := by kernel_rfl
theorem p15_6_0 : pj (regOf Try.f15 6) 0 = some (some 17, .move (.tmp 0), 35, none) := by kernel_rfl
theorem p15_6_1 : pj (regOf Try.f15 6) 1 = some (some 18, .move (.tmp 5), 3, none) := by kernel_rfl
theorem p15_6_2 : pj (regOf Try.f15 6) 2 = some (some 19, .indexAddr 35 (.tmp 17) (.tmp 18), 0, none) := by kernel_rfl
theorem tS3 : (Try.prog.info? 3).map (·.size) = some 1 := by kernel_rfl
theorem p15_6_3 : pj (regOf Try.f15 6) 3 = some (some 20, .load 3 (.tmp 19), 3, none) := by kernel_rfl
theorem tA3 : (Try.prog.underlying 3).map aggD = some false := by kernel_rfl
theorem p15_6_4 : pj (regOf Try.f15 6) 4 = some (some 21, .move (.tmp 1), 35, none) := by kernel_rfl
theorem p15_6_5 : pj (regOf Try.f15 6) 5 = some (some 22, .move (.tmp 5), 3, none) := by kernel_rfl
theorem p15_6_6 : pj (regOf Try.f15 6) 6 = some (some 23, .indexAddr 35 (.tmp 21) (.tmp 22), 0, none) := by kernel_rfl
theorem p15_6_7 : pj (regOf Try.f15 6) 7 = some (some 24, .load 3 (.tmp 23), 3, none) := by kernel_rfl
theorem p15_6_8 : pj (regOf Try.f15 6) 8 = some (some 25, .binOp .neq 3 (.tmp 20) (.tmp 24) 3, 4, none) := by kernel_rfl
theorem p15_5_0 : pj (regOf Try.f15 5) 0 = some (some 15, .move (.tmp 5), 3, none) := by kernel_rfl
theorem p15_5_1 : pj (regOf Try.f15 5) 1 = some (some 16, .binOp .add 3 (.tmp 15) (.const (.int .i64 1)) 3, 3, none) := by kernel_rfl
theorem p15_5_2 : pj (regOf Try.f15 5) 2 = some (some 5, .assign (.tmp 16), 3, none) := by kernel_rfl
theorem p15_8_0 : pj (regOf Try.f15 8) 0 = some (some 4, .assign (.const (.bool true)), 4, none) := by kernel_rfl
set_option maxHeartbeats 4000000 in
theorem same_i (A B : Option Addr) (c cb : Nat) (l : List Int) (w : World) (hl : l.length ≤ 1000000) (hF : Kd.C (Kd.int .i64) w A l.length l) (hG : Kd.C (Kd.int .i64) w B l.length l) : Calls Try.prog 15 #[.slice A l.length c, .slice B l.length cb] w fun e w' => e = .returned (.bool true) ∧ Kp w w' (fun _ => False) := by
  have K_0 := Kp.refl w (fun _ => False)
  refine enter (args := [Value.slice A l.length c, Value.slice B l.length cb]) (n := 26) Try.func15 body15 rfl rfl rfl ?_
  intro a hE
  refine c_reg R15_0_l ?_
  refine q0 p15_0_0 hE (st_assign rfl) ?_
  clear hE a; intro a hE
  refine p_nil ?_
  refine x_norm ?_
  refine wp_seq ?_
  refine c_reg R15_1_l ?_
  refine q0 p15_1_0 hE (st_move rfl) ?_
  clear hE a; intro a hE
  refine q0 p15_1_1 hE (st_len Try.underlying35 rfl) ?_
  clear hE a; intro a hE
  refine q0 p15_1_2 hE (st_move rfl) ?_
  clear hE a; intro a hE
  refine q0 p15_1_3 hE (st_len Try.underlying35 rfl) ?_
  clear hE a; intro a hE
  refine q0 p15_1_4 hE (st_neq (b := false) rfl rfl (by simp)) ?_
  clear hE a; intro a hE
  refine p_nil ?_
  refine x_norm ?_
  refine c_cond (t := false) hE rfl ?_
  refine wp_skip ?_
  refine x_norm ?_
  refine wp_seq ?_
  refine c_reg R15_3_l ?_
  refine q0 p15_3_0 hE (st_assign rfl) ?_
  clear hE a; intro a hE
  refine p_nil ?_
  refine x_norm ?_
  refine wp_block ?_
  refine c_loop (α := Nat) (fun j a W => En 26 a [(0, Value.slice A l.length c), (1, Value.slice B l.length cb), (10, Value.bool false), (5, Value.int .i64 (j : Int))] ∧ j ≤ l.length ∧ Kp w W (fun _ => False)) (fun j => l.length - j) (0) ?_ ?_
  ·
    exact ⟨En.sub hE ⟨rfl, rfl, rfl, rfl, trivial⟩, Nat.zero_le _, K_0⟩
  ·
    clear hE a
    rintro j a w1 ⟨hE, hj9, K_0⟩
    refine wp_seq ?_
    rcases Decidable.em ((j : Int) < (l.length : Int)) with hK1 | hK1
    ·
      refine c_reg R15_4_l ?_
      refine q0 p15_4_0 hE (st_move rfl) ?_
      clear hE a; intro a hE
      refine q0 p15_4_1 hE (st_move rfl) ?_
      clear hE a; intro a hE
      refine q0 p15_4_2 hE (st_len Try.underlying35 rfl) ?_
      clear hE a; intro a hE
      refine q0 p15_4_3 hE (st_lss (b := true) rfl rfl (decide_eq_true hK1)) ?_
      clear hE a; intro a hE
      refine p_nil ?_
      refine x_norm ?_
      refine c_cond (t := true) hE rfl ?_
      refine wp_skip ?_
      refine x_norm ?_
      refine wp_seq ?_
      refine wp_block ?_
      refine c_drawS (S := fun W => Kd.C (Kd.int .i64) W A l.length l ∧ Kd.C (Kd.int .i64) W B l.length l ∧ True) rfl rfl (listed := #[false, false, false, false, false, false, false, false, false]) rfl ?_
      intro w2 hh hk
      replace K_0 := K_0.then_ hk (fun _ h => h.elim)
      clear hh hk
      refine d_take (v := Value.slice A l.length c) p15_6_0 ns15_6 (by kernel_rfl) (by kernel_rfl) (fun _ _ _ h => h) hE wn_none rfl ⟨(C_to hF K_0), (C_to hG K_0), trivial⟩ (fun W hS => (st_move rfl)) rfl ?_
      clear hE a; intro a hE
      refine d_take (v := Value.int .i64 (j : Int)) p15_6_1 ns15_6 (by kernel_rfl) (by kernel_rfl) (fun _ _ _ h => h) hE wn_none rfl ⟨(C_to hF K_0), (C_to hG K_0), trivial⟩ (fun W hS => (st_move rfl)) rfl ?_
      clear hE a; intro a hE
      refine d_take (v := Value.pointer (some (ea A j))) p15_6_2 ns15_6 (by kernel_rfl) (by kernel_rfl) (fun _ _ _ h => h) hE wn_none rfl ⟨(C_to hF K_0), (C_to hG K_0), trivial⟩ (fun W hS => (st_indexAddrS (i := j) Try.underlying35 tS3 (C_at (C_to hF K_0) (show j < _ by omega)).1 rfl rfl (by omega))) rfl ?_
      clear hE a; intro a hE
      refine d_take (v := Value.int .i64 (rd l (j : Int))) p15_6_3 ns15_6 (by kernel_rfl) (by kernel_rfl) (fun _ _ _ h => h) hE wn_none rfl ⟨(C_to hF K_0), (C_to hG K_0), trivial⟩ (fun W hS => (st_loadC (i := j) tA3 (hS.1) (by omega) rfl)) rfl ?_
      clear hE a; intro a hE
      refine d_take (v := Value.slice B l.length cb) p15_6_4 ns15_6 (by kernel_rfl) (by kernel_rfl) (fun _ _ _ h => h) hE wn_none rfl ⟨(C_to hF K_0), (C_to hG K_0), trivial⟩ (fun W hS => (st_move rfl)) rfl ?_
      clear hE a; intro a hE
      refine d_take (v := Value.int .i64 (j : Int)) p15_6_5 ns15_6 (by kernel_rfl) (by kernel_rfl) (fun _ _ _ h => h) hE wn_none rfl ⟨(C_to hF K_0), (C_to hG K_0), trivial⟩ (fun W hS => (st_move rfl)) rfl ?_
      clear hE a; intro a hE
      refine d_take (v := Value.pointer (some (ea B j))) p15_6_6 ns15_6 (by kernel_rfl) (by kernel_rfl) (fun _ _ _ h => h) hE wn_none rfl ⟨(C_to hF K_0), (C_to hG K_0), trivial⟩ (fun W hS => (st_indexAddrS (i := j) Try.underlying35 tS3 (C_at (C_to hG K_0) (show j < _ by omega)).1 rfl rfl (by omega))) rfl ?_
      clear hE a; intro a hE
      refine d_take (v := Value.int .i64 (rd l (j : Int))) p15_6_7 ns15_6 (by kernel_rfl) (by kernel_rfl) (fun _ _ _ h => h) hE wn_none rfl ⟨(C_to hF K_0), (C_to hG K_0), trivial⟩ (fun W hS => (st_loadC (i := j) tA3 (hS.2.1) (by omega) rfl)) rfl ?_
      clear hE a; intro a hE
      refine d_take (v := Value.bool false) p15_6_8 ns15_6 (by kernel_rfl) (by kernel_rfl) (fun _ _ _ h => h) hE wn_none rfl ⟨(C_to hF K_0), (C_to hG K_0), trivial⟩ (fun W hS => (st_neq (b := false) rfl rfl (by simp))) rfl ?_
      clear hE a; intro a hE
      refine d_end (by kernel_rfl) ?_
      refine x_norm ?_
      refine c_cond (t := false) hE rfl ?_
      refine wp_skip ?_
      refine x_normB ?_
      refine x_norm ?_
      refine c_regL R15_5_l ?_
      refine q0 p15_5_0 hE (st_move rfl) ?_
      clear hE a; intro a hE
      refine q0 p15_5_1 hE (st_add (z := (j : Int) + 1) rfl rfl (wr_i64 _ (by omega) (by omega))) ?_
      clear hE a; intro a hE
      refine q0 p15_5_2 hE (st_assign rfl) ?_
      clear hE a; intro a hE
      refine p_nil ?_
      refine x_norm ?_
      exact ⟨j + 1, by omega, En.sub hE ⟨rfl, rfl, rfl, rfl, trivial⟩, by omega, K_0⟩
    ·
      refine c_reg R15_4_l ?_
      refine q0 p15_4_0 hE (st_move rfl) ?_
      clear hE a; intro a hE
      refine q0 p15_4_1 hE (st_move rfl) ?_
      clear hE a; intro a hE
      refine q0 p15_4_2 hE (st_len Try.underlying35 rfl) ?_
      clear hE a; intro a hE
      refine q0 p15_4_3 hE (st_lss (b := false) rfl rfl (decide_eq_false hK1)) ?_
      clear hE a; intro a hE
      refine p_nil ?_
      refine x_norm ?_
      refine c_cond (t := false) hE rfl ?_
      refine wp_exit ?_
      refine x_exit ?_
      refine x_exit ?_
      refine x_in ?_
      refine x_norm ?_
      refine c_reg R15_8_l ?_
      refine q0 p15_8_0 hE (st_assign rfl) ?_
      clear hE a; intro a hE
      refine p_nil ?_
      refine x_norm ?_
      refine wp_ret ?_
      refine ret_one (v := Value.bool true) rfl hE (.tmp rfl .nil) ?_
      exact ⟨rfl, K_0⟩
theorem R25_0_l : List.range (regOf Try.f25 0).size = [0] := by kernel_rfl
theorem R25_1_l : List.range (regOf Try.f25 1).size = [0, 1, 2, 3, 4, 5] := by kernel_rfl
theorem R25_2_l : List.range (regOf Try.f25 2).size = [0, 1, 2, 3, 4, 5, 6, 7, 8, 9, 10] := by kernel_rfl
theorem R25_3_l : List.range (regOf Try.f25 3).size = [0] := by kernel_rfl
theorem R25_4_l : List.range (regOf Try.f25 4).size = [0, 1, 2, 3, 4, 5, 6] := by kernel_rfl
theorem R25_5_l : List.range (regOf Try.f25 5).size = [0, 1, 2, 3, 4, 5, 6] := by kernel_rfl
theorem R25_6_l : List.range (regOf Try.f25 6).size = [0, 1, 2, 3, 4, 5, 6, 7, 8, 9, 10, 11, 12, 13, 14, 15, 16, 17, 18] := by kernel_rfl
theorem body25 : Try.f25.body = some (.seq (.region 0 (regOf Try.f25 0) false) (.seq (.region 1 (regOf Try.f25 1) false) (.seq (.seq (.region 2 (regOf Try.f25 2) false) (.cond (Operand.tmp 21) (.seq (.region 3 (regOf Try.f25 3) false) (.ret)) (.skip))) (.seq (.region 4 (regOf Try.f25 4) false) (.seq (.region 5 (regOf Try.f25 5) false) (.seq (.region 6 (regOf Try.f25 6) false) (.ret))))))) := by kernel_rfl
theorem p25_0_0 : pj (regOf Try.f25 0) 0 = some (some 0, .assign (.const (.bool false)), 4, none) := by kernel_rfl
theorem p25_1_0 : pj (regOf Try.f25 1) 0 = some (some 8, .call { callee := .value (.func 22), args := #[.const (.int .i64 5), .const (.int .i64 2)], argTypes := #[3, 3] }, 57, none) := by kernel_rfl
theorem cl22 : callable Try.f22 = true := by kernel_rfl
theorem p25_1_1 : pj (regOf Try.f25 1) 1 = some (some 7, .move (.tmp 8), 57, none) := by kernel_rfl
theorem p25_1_2 : pj (regOf Try.f25 1) 2 = some (some 9, .extract (.tmp 7) 0, 56, none) := by kernel_rfl
theorem p25_1_3 : pj (regOf Try.f25 1) 3 = some (some 10, .extract (.tmp 7) 1, 30, none) := by kernel_rfl
theorem p25_1_4 : pj (regOf Try.f25 1) 4 = some (some 1, .assign (.tmp 9), 56, none) := by kernel_rfl
theorem p25_1_5 : pj (regOf Try.f25 1) 5 = some (some 2, .assign (.tmp 10), 30, none) := by kernel_rfl
theorem p25_2_0 : pj (regOf Try.f25 2) 0 = some (some 11, .move (.tmp 2), 30, none) := by kernel_rfl
theorem p25_2_1 : pj (regOf Try.f25 2) 1 = some (some 12, .binOp .neq 30 (.tmp 11) (.const (.int .i64 0)) 30, 4, none) := by kernel_rfl
theorem p25_2_2 : pj (regOf Try.f25 2) 2 = some (some 13, .move (.tmp 12), 4, none) := by kernel_rfl
theorem p25_2_3 : pj (regOf Try.f25 2) 3 = some (some 14, .move (.tmp 1), 56, some (2, false)) := by kernel_rfl
theorem g25_2_2 : dstOf (regOf Try.f25 2) 2 = some 13 := by kernel_rfl
theorem p25_2_4 : pj (regOf Try.f25 2) 4 = some (some 15, .binOp .eql 56 (.tmp 14) (.const (.pointer none)) 56, 4, some (2, false)) := by kernel_rfl
theorem tP56 : Try.prog.underlying 56 = some (.pointer (Try.prog.pointee 56)) := by kernel_rfl
theorem p25_2_5 : pj (regOf Try.f25 2) 5 = some (some 16, .pick (.tmp 13) (.const (.bool true)) (.tmp 15), 4, none) := by kernel_rfl
theorem p25_2_6 : pj (regOf Try.f25 2) 6 = some (some 17, .move (.tmp 16), 4, none) := by kernel_rfl
theorem p25_2_7 : pj (regOf Try.f25 2) 7 = some (some 18, .move (.tmp 1), 56, some (6, false)) := by kernel_rfl
theorem g25_2_6 : dstOf (regOf Try.f25 2) 6 = some 17 := by kernel_rfl
theorem p25_2_8 : pj (regOf Try.f25 2) 8 = some (some 19, .call { callee := .value (.func 23), args := #[.tmp 18, .const (.int .i64 7), .const (.int .i64 0)], argTypes := #[56, 3, 3] }, 30, some (6, false)) := by kernel_rfl
theorem cl23 : callable Try.f23 = true := by kernel_rfl
theorem p25_2_9 : pj (regOf Try.f25 2) 9 = some (some 20, .binOp .neq 30 (.tmp 19) (.const (.int .i64 0)) 30, 4, some (6, false)) := by kernel_rfl
theorem p25_2_10 : pj (regOf Try.f25 2) 10 = some (some 21, .pick (.tmp 17) (.const (.bool true)) (.tmp 20), 4, none) := by kernel_rfl
theorem p25_4_0 : pj (regOf Try.f25 4) 0 = some (some 23, .move (.tmp 1), 56, none) := by kernel_rfl
theorem p25_4_1 : pj (regOf Try.f25 4) 1 = some (some 24, .call { callee := .value (.func 24), args := #[.tmp 23, .const (.int .i64 5)], argTypes := #[56, 3] }, 59, none) := by kernel_rfl
theorem cl24 : callable Try.f24 = true := by kernel_rfl
theorem p25_4_2 : pj (regOf Try.f25 4) 2 = some (some 22, .move (.tmp 24), 59, none) := by kernel_rfl
theorem p25_4_3 : pj (regOf Try.f25 4) 3 = some (some 25, .extract (.tmp 22) 0, 35, none) := by kernel_rfl
theorem p25_4_4 : pj (regOf Try.f25 4) 4 = some (some 26, .extract (.tmp 22) 1, 35, none) := by kernel_rfl
theorem p25_4_5 : pj (regOf Try.f25 4) 5 = some (some 3, .assign (.tmp 25), 35, none) := by kernel_rfl
theorem p25_4_6 : pj (regOf Try.f25 4) 6 = some (some 4, .assign (.tmp 26), 35, none) := by kernel_rfl
theorem p25_5_0 : pj (regOf Try.f25 5) 0 = some (some 28, .move (.tmp 1), 56, none) := by kernel_rfl
theorem p25_5_1 : pj (regOf Try.f25 5) 1 = some (some 29, .call { callee := .value (.func 24), args := #[.tmp 28, .const (.int .i64 10)], argTypes := #[56, 3] }, 59, none) := by kernel_rfl
theorem p25_5_2 : pj (regOf Try.f25 5) 2 = some (some 27, .move (.tmp 29), 59, none) := by kernel_rfl
theorem p25_5_3 : pj (regOf Try.f25 5) 3 = some (some 30, .extract (.tmp 27) 0, 35, none) := by kernel_rfl
theorem p25_5_4 : pj (regOf Try.f25 5) 4 = some (some 31, .extract (.tmp 27) 1, 35, none) := by kernel_rfl
theorem p25_5_5 : pj (regOf Try.f25 5) 5 = some (some 5, .assign (.tmp 30), 35, none) := by kernel_rfl
theorem p25_5_6 : pj (regOf Try.f25 5) 6 = some (some 6, .assign (.tmp 31), 35, none) := by kernel_rfl
theorem p25_6_0 : pj (regOf Try.f25 6) 0 = some (some 32, .move (.tmp 3), 35, none) := by kernel_rfl
theorem p25_6_1 : pj (regOf Try.f25 6) 1 = some (some 33, .buildSlice 35 1 #[(0, .const (.int .i64 7))], 35, none) := by kernel_rfl
theorem p25_6_2 : pj (regOf Try.f25 6) 2 = some (some 34, .call { callee := .value (.func 15), args := #[.tmp 32, .tmp 33], argTypes := #[35, 35] }, 4, none) := by kernel_rfl
theorem cl15 : callable Try.f15 = true := by kernel_rfl
theorem p25_6_3 : pj (regOf Try.f25 6) 3 = some (some 35, .move (.tmp 34), 4, none) := by kernel_rfl
theorem p25_6_4 : pj (regOf Try.f25 6) 4 = some (some 36, .move (.tmp 4), 35, some (3, true)) := by kernel_rfl
theorem g25_6_3 : dstOf (regOf Try.f25 6) 3 = some 35 := by kernel_rfl
theorem p25_6_5 : pj (regOf Try.f25 6) 5 = some (some 37, .call { callee := .builtin .len, args := #[.tmp 36], argTypes := #[35] }, 3, some (3, true)) := by kernel_rfl
theorem p25_6_6 : pj (regOf Try.f25 6) 6 = some (some 38, .binOp .eql 3 (.tmp 37) (.const (.int .i64 0)) 3, 4, some (3, true)) := by kernel_rfl
theorem p25_6_7 : pj (regOf Try.f25 6) 7 = some (some 39, .pick (.tmp 35) (.tmp 38) (.const (.bool false)), 4, none) := by kernel_rfl
theorem p25_6_8 : pj (regOf Try.f25 6) 8 = some (some 40, .move (.tmp 39), 4, none) := by kernel_rfl
theorem p25_6_9 : pj (regOf Try.f25 6) 9 = some (some 41, .move (.tmp 5), 35, some (8, true)) := by kernel_rfl
theorem g25_6_8 : dstOf (regOf Try.f25 6) 8 = some 40 := by kernel_rfl
theorem p25_6_10 : pj (regOf Try.f25 6) 10 = some (some 42, .call { callee := .builtin .len, args := #[.tmp 41], argTypes := #[35] }, 3, some (8, true)) := by kernel_rfl
theorem p25_6_11 : pj (regOf Try.f25 6) 11 = some (some 43, .binOp .eql 3 (.tmp 42) (.const (.int .i64 0)) 3, 4, some (8, true)) := by kernel_rfl
theorem p25_6_12 : pj (regOf Try.f25 6) 12 = some (some 44, .pick (.tmp 40) (.tmp 43) (.const (.bool false)), 4, none) := by kernel_rfl
theorem p25_6_13 : pj (regOf Try.f25 6) 13 = some (some 45, .move (.tmp 44), 4, none) := by kernel_rfl
theorem p25_6_14 : pj (regOf Try.f25 6) 14 = some (some 46, .move (.tmp 6), 35, some (13, true)) := by kernel_rfl
theorem g25_6_13 : dstOf (regOf Try.f25 6) 13 = some 45 := by kernel_rfl
theorem p25_6_15 : pj (regOf Try.f25 6) 15 = some (some 47, .buildSlice 35 1 #[(0, .const (.int .i64 7))], 35, some (13, true)) := by kernel_rfl
theorem p25_6_16 : pj (regOf Try.f25 6) 16 = some (some 48, .call { callee := .value (.func 15), args := #[.tmp 46, .tmp 47], argTypes := #[35, 35] }, 4, some (13, true)) := by kernel_rfl
theorem p25_6_17 : pj (regOf Try.f25 6) 17 = some (some 49, .pick (.tmp 45) (.tmp 48) (.const (.bool false)), 4, none) := by kernel_rfl
theorem p25_6_18 : pj (regOf Try.f25 6) 18 = some (some 0, .assign (.tmp 49), 4, none) := by kernel_rfl
set_option maxHeartbeats 4000000 in
theorem kn20 (w : World) : Calls Try.prog 25 #[] w fun e w' => e = .returned (.bool true) ∧ Kp w w' (fun _ => False) := by
  have K_0 := Kp.refl w (fun _ => False)
  refine enter (args := []) (n := 50) Try.func25 body25 rfl rfl rfl ?_
  intro a hE
  refine c_reg R25_0_l ?_
  refine q0 p25_0_0 hE (st_assign rfl) ?_
  clear hE a; intro a hE
  refine p_nil ?_
  refine x_norm ?_
  refine c_reg R25_1_l ?_
  refine p_cons (s_call (xs := [Operand.const (Value.int IntKind.i64 5), Operand.const (Value.int IntKind.i64 2)]) (args := [Value.int .i64 5, Value.int .i64 2]) p25_1_0 hE wn_none rfl rfl Try.func22 cl22 (new_ok 5 2 (by decide) _) ?_)
  rintro e w1 ⟨gW, gN, rfl, zW9, zN9, n_gW_gN, B_gW, B_gN, hk⟩
  have z_0_gW := Nat.le_trans K_0.kept.1 zW9
  have z_0_gN := Nat.le_trans K_0.kept.1 zN9
  replace K_0 := K_0.then_ hk (fun _ h => h.elim)
  refine ⟨_, rfl, ?_⟩
  clear hE a; intro a hE
  refine q0 p25_1_1 hE (st_move rfl) ?_
  clear hE a; intro a hE
  refine q0 p25_1_2 hE (st_extract rfl rfl) ?_
  clear hE a; intro a hE
  refine q0 p25_1_3 hE (st_extract rfl rfl) ?_
  clear hE a; intro a hE
  refine q0 p25_1_4 hE (st_assign rfl) ?_
  clear hE a; intro a hE
  refine q0 p25_1_5 hE (st_assign rfl) ?_
  clear hE a; intro a hE
  refine p_nil ?_
  refine x_norm ?_
  refine wp_seq ?_
  refine c_reg R25_2_l ?_
  refine q0 p25_2_0 hE (st_move rfl) ?_
  clear hE a; intro a hE
  refine q0 p25_2_1 hE (st_neq (b := false) rfl rfl (by decide)) ?_
  clear hE a; intro a hE
  refine q0 p25_2_2 hE (st_move rfl) ?_
  clear hE a; intro a hE
  refine p_cons (s_still p25_2_3 hE (wn_some g25_2_2 rfl rfl) rfl (st_move rfl) ?_)
  clear hE a; intro a hE
  refine p_cons (s_still p25_2_4 hE (wn_some g25_2_2 rfl rfl) rfl (st_eqlP (b := false) tP56 rfl rfl rfl) ?_)
  clear hE a; intro a hE
  refine q0 p25_2_5 hE (st_pick rfl rfl) ?_
  clear hE a; intro a hE
  refine q0 p25_2_6 hE (st_move rfl) ?_
  clear hE a; intro a hE
  refine p_cons (s_still p25_2_7 hE (wn_some g25_2_6 rfl rfl) rfl (st_move rfl) ?_)
  clear hE a; intro a hE
  refine p_cons (s_call (xs := [Operand.tmp 18, Operand.const (Value.int IntKind.i64 7), Operand.const (Value.int IntKind.i64 0)]) (args := [Value.pointer (some ⟨gW, 0, none⟩), Value.int .i64 7, Value.int .i64 0]) p25_2_8 hE (wn_some g25_2_6 rfl rfl) rfl rfl Try.func23 cl23 (send_yes gW gN 0 (#[]) ([]) 5 2 7 0 _ ⟨by decide, by decide⟩ rfl (l' := [(7, (5, 1))]) rfl B_gW B_gN (Mi.mapi_nil encO 0) n_gW_gN) ?_)
  rintro e w3 ⟨esm2, ckm2, rfl, MFm2, B_gN', hk⟩
  replace B_gW := kp_blk B_gW hk n_gW_gN
  replace K_0 := K_0.then_ hk (fun k h => by rw [show k = gN from h]; exact Or.inr z_0_gN)
  replace B_gN := B_gN'
  refine ⟨_, rfl, ?_⟩
  clear hE a; intro a hE
  refine p_cons (s_still p25_2_9 hE (wn_some g25_2_6 rfl rfl) rfl (st_neq (b := false) rfl rfl (by decide)) ?_)
  clear hE a; intro a hE
  refine q0 p25_2_10 hE (st_pick rfl rfl) ?_
  clear hE a; intro a hE
  refine p_nil ?_
  refine x_norm ?_
  refine c_cond (t := false) hE rfl ?_
  refine wp_skip ?_
  refine x_norm ?_
  refine c_reg R25_4_l ?_
  refine q0 p25_4_0 hE (st_move rfl) ?_
  clear hE a; intro a hE
  have hnb_gW := blk_lt B_gW
  have hnb_gN := blk_lt B_gN
  have hnz_0 := K_0.kept.1
  have hctQ4 := due_any gW gN ckm2 esm2 ([(7, (5, 1))]) 5 2 5 w3 ⟨by decide, by decide⟩ (by decide) (ok_one (by decide) (by decide) (by decide)) B_gW B_gN MFm2 n_gW_gN
  rw [k1] at hctQ4
  refine p_cons (s_call (xs := [Operand.tmp 23, Operand.const (Value.int IntKind.i64 5)]) (args := [Value.pointer (some ⟨gW, 0, none⟩), Value.int .i64 5]) p25_4_1 hE wn_none rfl rfl Try.func24 cl24 (hctQ4) ?_)
  rintro e w15 ⟨A5, c6, B7, d8, es9, ck10, rfl, O_qa11, O_ql12, hNN13, MF14, hok_MF14, B_gN', hk⟩
  replace B_gW := kp_blk B_gW hk n_gW_gN
  replace K_0 := K_0.then_ hk (fun k h => by rw [show k = gN from h]; exact Or.inr z_0_gN)
  replace B_gN := B_gN'
  skip
  have Nb_qa11_gW : ¬ OB A5 gW := fun h => by have := (own_ob O_qa11 h).1; have := hnb_gW; omega
  have Nb_qa11_gN : ¬ OB A5 gN := fun h => by have := (own_ob O_qa11 h).1; have := hnb_gN; omega
  have Z_0_qa11 : ∀ k, OB A5 k → (fun _ => False) k ∨ w.heap.size ≤ k := fun k h => .inr (by have := (own_ob O_qa11 h).1; have := hnz_0; omega)
  replace O_qa11 := own_lower O_qa11 hnz_0
  have Nb_ql12_gW : ¬ OB B7 gW := fun h => by have := (own_ob O_ql12 h).1; have := hnb_gW; omega
  have Nb_ql12_gN : ¬ OB B7 gN := fun h => by have := (own_ob O_ql12 h).1; have := hnb_gN; omega
  have Z_0_ql12 : ∀ k, OB B7 k → (fun _ => False) k ∨ w.heap.size ≤ k := fun k h => .inr (by have := (own_ob O_ql12 h).1; have := hnz_0; omega)
  have NN_ql12_qa11 : ∀ k, OB B7 k → ¬ OB A5 k := fun k h h2 => hNN13 k h2 h
  have NN_qa11_ql12 : ∀ k, OB A5 k → ¬ OB B7 k := fun k h h2 => NN_ql12_qa11 k h2 h
  replace O_ql12 := own_lower O_ql12 hnz_0
  refine ⟨_, rfl, ?_⟩
  clear hE a; intro a hE
  refine q0 p25_4_2 hE (st_move rfl) ?_
  clear hE a; intro a hE
  refine q0 p25_4_3 hE (st_extract rfl rfl) ?_
  clear hE a; intro a hE
  refine q0 p25_4_4 hE (st_extract rfl rfl) ?_
  clear hE a; intro a hE
  refine q0 p25_4_5 hE (st_assign rfl) ?_
  clear hE a; intro a hE
  refine q0 p25_4_6 hE (st_assign rfl) ?_
  clear hE a; intro a hE
  refine p_nil ?_
  refine x_norm ?_
  refine c_reg R25_5_l ?_
  refine q0 p25_5_0 hE (st_move rfl) ?_
  clear hE a; intro a hE
  have hnb_gW := blk_lt B_gW
  have hnb_gN := blk_lt B_gN
  have hnz_0 := K_0.kept.1
  have hno_qa11 := fun k (h : OB A5 k) => (own_ob O_qa11 h).2
  have hno_ql12 := fun k (h : OB B7 k) => (own_ob O_ql12 h).2
  have hctQ16 := due_any gW gN ck10 es9 ([(7, (10, 2))]) 5 2 10 w15 ⟨by decide, by decide⟩ (by decide) (ok_one (by decide) (by decide) (by decide)) B_gW B_gN MF14 n_gW_gN
  rw [k2] at hctQ16
  refine p_cons (s_call (xs := [Operand.tmp 28, Operand.const (Value.int IntKind.i64 10)]) (args := [Value.pointer (some ⟨gW, 0, none⟩), Value.int .i64 10]) p25_5_1 hE wn_none rfl rfl Try.func24 cl24 (hctQ16) ?_)
  rintro e w27 ⟨A17, c18, B19, d20, es21, ck22, rfl, O_qa23, O_ql24, hNN25, MF26, hok_MF26, B_gN', hk⟩
  replace B_gW := kp_blk B_gW hk n_gW_gN
  replace O_qa11 := own_keep O_qa11 hk (fun k hk2 h2 => Nb_qa11_gN (by rw [show k = gN from h2] at hk2; exact hk2))
  replace O_ql12 := own_keep O_ql12 hk (fun k hk2 h2 => Nb_ql12_gN (by rw [show k = gN from h2] at hk2; exact hk2))
  replace K_0 := K_0.then_ hk (fun k h => by rw [show k = gN from h]; exact Or.inr z_0_gN)
  replace B_gN := B_gN'
  skip
  have Nb_qa23_gW : ¬ OB A17 gW := fun h => by have := (own_ob O_qa23 h).1; have := hnb_gW; omega
  have Nb_qa23_gN : ¬ OB A17 gN := fun h => by have := (own_ob O_qa23 h).1; have := hnb_gN; omega
  have Z_0_qa23 : ∀ k, OB A17 k → (fun _ => False) k ∨ w.heap.size ≤ k := fun k h => .inr (by have := (own_ob O_qa23 h).1; have := hnz_0; omega)
  have NN_qa23_qa11 : ∀ k, OB A17 k → ¬ OB A5 k := fun k h h2 => by have := (own_ob O_qa23 h).1; have := hno_qa11 k h2; omega
  have NN_qa11_qa23 : ∀ k, OB A5 k → ¬ OB A17 k := fun k h h2 => NN_qa23_qa11 k h2 h
  have NN_qa23_ql12 : ∀ k, OB A17 k → ¬ OB B7 k := fun k h h2 => by have := (own_ob O_qa23 h).1; have := hno_ql12 k h2; omega
  have NN_ql12_qa23 : ∀ k, OB B7 k → ¬ OB A17 k := fun k h h2 => NN_qa23_ql12 k h2 h
  replace O_qa23 := own_lower O_qa23 hnz_0
  have Nb_ql24_gW : ¬ OB B19 gW := fun h => by have := (own_ob O_ql24 h).1; have := hnb_gW; omega
  have Nb_ql24_gN : ¬ OB B19 gN := fun h => by have := (own_ob O_ql24 h).1; have := hnb_gN; omega
  have Z_0_ql24 : ∀ k, OB B19 k → (fun _ => False) k ∨ w.heap.size ≤ k := fun k h => .inr (by have := (own_ob O_ql24 h).1; have := hnz_0; omega)
  have NN_ql24_qa11 : ∀ k, OB B19 k → ¬ OB A5 k := fun k h h2 => by have := (own_ob O_ql24 h).1; have := hno_qa11 k h2; omega
  have NN_qa11_ql24 : ∀ k, OB A5 k → ¬ OB B19 k := fun k h h2 => NN_ql24_qa11 k h2 h
  have NN_ql24_ql12 : ∀ k, OB B19 k → ¬ OB B7 k := fun k h h2 => by have := (own_ob O_ql24 h).1; have := hno_ql12 k h2; omega
  have NN_ql12_ql24 : ∀ k, OB B7 k → ¬ OB B19 k := fun k h h2 => NN_ql24_ql12 k h2 h
  have NN_ql24_qa23 : ∀ k, OB B19 k → ¬ OB A17 k := fun k h h2 => hNN25 k h2 h
  have NN_qa23_ql24 : ∀ k, OB A17 k → ¬ OB B19 k := fun k h h2 => NN_ql24_qa23 k h2 h
  replace O_ql24 := own_lower O_ql24 hnz_0
  refine ⟨_, rfl, ?_⟩
  clear hE a; intro a hE
  refine q0 p25_5_2 hE (st_move rfl) ?_
  clear hE a; intro a hE
  refine q0 p25_5_3 hE (st_extract rfl rfl) ?_
  clear hE a; intro a hE
  refine q0 p25_5_4 hE (st_extract rfl rfl) ?_
  clear hE a; intro a hE
  refine q0 p25_5_5 hE (st_assign rfl) ?_
  clear hE a; intro a hE
  refine q0 p25_5_6 hE (st_assign rfl) ?_
  clear hE a; intro a hE
  refine p_nil ?_
  refine x_norm ?_
  refine c_reg R25_6_l ?_
  refine q0 p25_6_0 hE (st_move rfl) ?_
  clear hE a; intro a hE
  refine p_cons (s_row (xs := [(0, Operand.const (Value.int IntKind.i64 7))]) (vs := [(0, Value.int .i64 7)]) (cs := #[Value.int .i64 7]) p25_6_1 hE wn_none rfl Try.underlying35 rfl (by kernel_rfl) ?_)
  clear hE a; intro g28 w29 z30 B_g28 hk a hE
  have n_gW_g28 : gW ≠ g28 := ne_new B_gW z30
  have n_gN_g28 : gN ≠ g28 := ne_new B_gN z30
  have z_0_g28 := Nat.le_trans K_0.kept.1 z30
  have Nb_qa11_g28 : ¬ OB A5 g28 := fun h => by have := (own_ob O_qa11 h).2; omega
  have Nb_ql12_g28 : ¬ OB B7 g28 := fun h => by have := (own_ob O_ql12 h).2; omega
  have Nb_qa23_g28 : ¬ OB A17 g28 := fun h => by have := (own_ob O_qa23 h).2; omega
  have Nb_ql24_g28 : ¬ OB B19 g28 := fun h => by have := (own_ob O_ql24 h).2; omega
  replace B_gW := kp_blk B_gW hk (fun h => h)
  replace B_gN := kp_blk B_gN hk (fun h => h)
  replace O_qa11 := own_keep O_qa11 hk (fun _ _ h => h)
  replace O_ql12 := own_keep O_ql12 hk (fun _ _ h => h)
  replace O_qa23 := own_keep O_qa23 hk (fun _ _ h => h)
  replace O_ql24 := own_keep O_ql24 hk (fun _ _ h => h)
  replace K_0 := K_0.then_ hk (fun _ h => h.elim)
  clear hk
  refine p_cons (s_call (xs := [Operand.tmp 32, Operand.tmp 33]) (args := [Value.slice A5 ((⟨[7], [], [(7, (10, 2))]⟩ : St).again.length) c6, Value.slice (some ⟨g28, 0, none⟩) 1 1]) p25_6_2 hE wn_none rfl rfl Try.func15 cl15 (same_i A5 (some ⟨g28, 0, none⟩) c6 1 ([7]) _ (by decide) (own_told O_qa11) (C_blk (k := .i64) (l := [7]) (off := 0) B_g28 ⟨rfl, Nat.le_of_ble_eq_true rfl⟩ rfl)) ?_)
  rintro e w31 ⟨rfl, hk⟩
  replace B_gW := kp_blk B_gW hk (fun h => h)
  replace B_gN := kp_blk B_gN hk (fun h => h)
  replace B_g28 := kp_blk B_g28 hk (fun h => h)
  replace O_qa11 := own_keep O_qa11 hk (fun _ _ h => h)
  replace O_ql12 := own_keep O_ql12 hk (fun _ _ h => h)
  replace O_qa23 := own_keep O_qa23 hk (fun _ _ h => h)
  replace O_ql24 := own_keep O_ql24 hk (fun _ _ h => h)
  replace K_0 := K_0.then_ hk (fun _ h => h.elim)
  refine ⟨_, rfl, ?_⟩
  clear hE a; intro a hE
  refine q0 p25_6_3 hE (st_move rfl) ?_
  clear hE a; intro a hE
  refine p_cons (s_still p25_6_4 hE (wn_some g25_6_3 rfl rfl) rfl (st_move rfl) ?_)
  clear hE a; intro a hE
  refine p_cons (s_still p25_6_5 hE (wn_some g25_6_3 rfl rfl) rfl (st_len Try.underlying35 rfl) ?_)
  clear hE a; intro a hE
  refine p_cons (s_still p25_6_6 hE (wn_some g25_6_3 rfl rfl) rfl (st_eql (b := true) rfl rfl (by decide)) ?_)
  clear hE a; intro a hE
  refine q0 p25_6_7 hE (st_pick rfl rfl) ?_
  clear hE a; intro a hE
  refine q0 p25_6_8 hE (st_move rfl) ?_
  clear hE a; intro a hE
  refine p_cons (s_still p25_6_9 hE (wn_some g25_6_8 rfl rfl) rfl (st_move rfl) ?_)
  clear hE a; intro a hE
  refine p_cons (s_still p25_6_10 hE (wn_some g25_6_8 rfl rfl) rfl (st_len Try.underlying35 rfl) ?_)
  clear hE a; intro a hE
  refine p_cons (s_still p25_6_11 hE (wn_some g25_6_8 rfl rfl) rfl (st_eql (b := true) rfl rfl (by decide)) ?_)
  clear hE a; intro a hE
  refine q0 p25_6_12 hE (st_pick rfl rfl) ?_
  clear hE a; intro a hE
  refine q0 p25_6_13 hE (st_move rfl) ?_
  clear hE a; intro a hE
  refine p_cons (s_still p25_6_14 hE (wn_some g25_6_13 rfl rfl) rfl (st_move rfl) ?_)
  clear hE a; intro a hE
  refine p_cons (s_row (xs := [(0, Operand.const (Value.int IntKind.i64 7))]) (vs := [(0, Value.int .i64 7)]) (cs := #[Value.int .i64 7]) p25_6_15 hE (wn_some g25_6_13 rfl rfl) rfl Try.underlying35 rfl (by kernel_rfl) ?_)
  clear hE a; intro g32 w33 z34 B_g32 hk a hE
  have n_gW_g32 : gW ≠ g32 := ne_new B_gW z34
  have n_gN_g32 : gN ≠ g32 := ne_new B_gN z34
  have n_g28_g32 : g28 ≠ g32 := ne_new B_g28 z34
  have z_0_g32 := Nat.le_trans K_0.kept.1 z34
  have Nb_qa11_g32 : ¬ OB A5 g32 := fun h => by have := (own_ob O_qa11 h).2; omega
  have Nb_ql12_g32 : ¬ OB B7 g32 := fun h => by have := (own_ob O_ql12 h).2; omega
  have Nb_qa23_g32 : ¬ OB A17 g32 := fun h => by have := (own_ob O_qa23 h).2; omega
  have Nb_ql24_g32 : ¬ OB B19 g32 := fun h => by have := (own_ob O_ql24 h).2; omega
  replace B_gW := kp_blk B_gW hk (fun h => h)
  replace B_gN := kp_blk B_gN hk (fun h => h)
  replace B_g28 := kp_blk B_g28 hk (fun h => h)
  replace O_qa11 := own_keep O_qa11 hk (fun _ _ h => h)
  replace O_ql12 := own_keep O_ql12 hk (fun _ _ h => h)
  replace O_qa23 := own_keep O_qa23 hk (fun _ _ h => h)
  replace O_ql24 := own_keep O_ql24 hk (fun _ _ h => h)
  replace K_0 := K_0.then_ hk (fun _ h => h.elim)
  clear hk
  refine p_cons (s_call (xs := [Operand.tmp 46, Operand.tmp 47]) (args := [Value.slice B19 ((⟨[], [7], []⟩ : St).lost.length) d20, Value.slice (some ⟨g32, 0, none⟩) 1 1]) p25_6_16 hE (wn_some g25_6_13 rfl rfl) rfl rfl Try.func15 cl15 (same_i B19 (some ⟨g32, 0, none⟩) d20 1 ([7]) _ (by decide) (own_told O_ql24) (C_blk (k := .i64) (l := [7]) (off := 0) B_g32 ⟨rfl, Nat.le_of_ble_eq_true rfl⟩ rfl)) ?_)
  rintro e w35 ⟨rfl, hk⟩
  replace B_gW := kp_blk B_gW hk (fun h => h)
  replace B_gN := kp_blk B_gN hk (fun h => h)
  replace B_g28 := kp_blk B_g28 hk (fun h => h)
  replace B_g32 := kp_blk B_g32 hk (fun h => h)
  replace O_qa11 := own_keep O_qa11 hk (fun _ _ h => h)
  replace O_ql12 := own_keep O_ql12 hk (fun _ _ h => h)
  replace O_qa23 := own_keep O_qa23 hk (fun _ _ h => h)
  replace O_ql24 := own_keep O_ql24 hk (fun _ _ h => h)
  replace K_0 := K_0.then_ hk (fun _ h => h.elim)
  refine ⟨_, rfl, ?_⟩
  clear hE a; intro a hE
  refine q0 p25_6_17 hE (st_pick rfl rfl) ?_
  clear hE a; intro a hE
  refine q0 p25_6_18 hE (st_assign rfl) ?_
  clear hE a; intro a hE
  refine p_nil ?_
  refine x_norm ?_
  refine wp_ret ?_
  refine ret_one (v := Value.bool true) rfl hE (.tmp rfl .nil) ?_
  exact ⟨rfl, K_0⟩
theorem R6_0_l : List.range (regOf Try.f6 0).size = [0] := by kernel_rfl
theorem R6_1_l : List.range (regOf Try.f6 1).size = [0, 1, 2, 3, 4, 5, 6, 7, 8, 9, 10, 11, 12, 13, 14, 15, 16] := by kernel_rfl
theorem R6_2_l : List.range (regOf Try.f6 2).size = [0, 1, 2, 3, 4, 5, 6, 7] := by kernel_rfl
theorem R6_3_l : List.range (regOf Try.f6 3).size = [0, 1, 2, 3, 4, 5, 6, 7, 8, 9, 10, 11] := by kernel_rfl
theorem R6_4_l : List.range (regOf Try.f6 4).size = [0] := by kernel_rfl
theorem R6_5_l : List.range (regOf Try.f6 5).size = [0, 1] := by kernel_rfl
theorem R6_6_l : List.range (regOf Try.f6 6).size = [0] := by kernel_rfl
theorem R6_7_l : List.range (regOf Try.f6 7).size = [0, 1, 2, 3, 4, 5] := by kernel_rfl
theorem R6_9_l : List.range (regOf Try.f6 9).size = [0, 1, 2, 3, 4, 5, 6, 7] := by kernel_rfl
theorem R6_10_l : List.range (regOf Try.f6 10).size = [0, 1, 2, 3, 4] := by kernel_rfl
theorem R6_11_l : List.range (regOf Try.f6 11).size = [0, 1, 2, 3, 4] := by kernel_rfl
theorem R6_8_l : List.range (regOf Try.f6 8).size = [0, 1, 2] := by kernel_rfl
theorem R6_12_l : List.range (regOf Try.f6 12).size = [0, 1, 2, 3, 4, 5, 6, 7, 8, 9, 10, 11, 12, 13, 14, 15, 16, 17, 18, 19, 20, 21, 22] := by kernel_rfl
theorem body6 : Try.f6.body = some (.seq (.region 0 (regOf Try.f6 0) false) (.seq (.region 1 (regOf Try.f6 1) false) (.seq (.region 2 (regOf Try.f6 2) false) (.seq (.seq (.region 3 (regOf Try.f6 3) false) (.cond (Operand.tmp 45) (.seq (.region 4 (regOf Try.f6 4) false) (.ret)) (.skip))) (.seq (.region 5 (regOf Try.f6 5) false) (.seq (.seq (.region 6 (regOf Try.f6 6) false) (.block 0 (.loop (.seq (.seq (.region 7 (regOf Try.f6 7) false) (.cond (Operand.tmp 51) (.skip) (.exit 0))) (.seq (.block 1 (.seq (.region 9 (regOf Try.f6 9) false) (.seq (.region 10 (regOf Try.f6 10) false) (.region 11 (regOf Try.f6 11) false)))) (.region 8 (regOf Try.f6 8) false)))))) (.seq (.region 12 (regOf Try.f6 12) false) (.ret)))))))) := by kernel_rfl
theorem p6_0_0 : pj (regOf Try.f6 0) 0 = some (some 6, .assign (.const (.bool false)), 4, none) := by kernel_rfl
theorem p6_1_0 : pj (regOf Try.f6 1) 0 = some (some 14, .move (.tmp 0), 3, none) := by kernel_rfl
theorem p6_1_1 : pj (regOf Try.f6 1) 1 = some (some 15, .convert 3 23 (.tmp 14), 23, none) := by kernel_rfl
theorem p6_1_2 : pj (regOf Try.f6 1) 2 = some (some 16, .binOp .rem 23 (.tmp 15) (.const (.int .u64 20)) 23, 23, none) := by kernel_rfl
theorem p6_1_3 : pj (regOf Try.f6 1) 3 = some (some 17, .convert 23 3 (.tmp 16), 3, none) := by kernel_rfl
theorem p6_1_4 : pj (regOf Try.f6 1) 4 = some (some 18, .binOp .add 3 (.const (.int .i64 1)) (.tmp 17) 3, 3, none) := by kernel_rfl
theorem p6_1_5 : pj (regOf Try.f6 1) 5 = some (some 19, .move (.tmp 1), 3, none) := by kernel_rfl
theorem p6_1_6 : pj (regOf Try.f6 1) 6 = some (some 20, .convert 3 23 (.tmp 19), 23, none) := by kernel_rfl
theorem p6_1_7 : pj (regOf Try.f6 1) 7 = some (some 21, .binOp .rem 23 (.tmp 20) (.const (.int .u64 16)) 23, 23, none) := by kernel_rfl
theorem p6_1_8 : pj (regOf Try.f6 1) 8 = some (some 22, .convert 23 3 (.tmp 21), 3, none) := by kernel_rfl
theorem p6_1_9 : pj (regOf Try.f6 1) 9 = some (some 23, .binOp .add 3 (.const (.int .i64 1)) (.tmp 22) 3, 3, none) := by kernel_rfl
theorem p6_1_10 : pj (regOf Try.f6 1) 10 = some (some 24, .move (.tmp 2), 3, none) := by kernel_rfl
theorem p6_1_11 : pj (regOf Try.f6 1) 11 = some (some 25, .convert 3 23 (.tmp 24), 23, none) := by kernel_rfl
theorem p6_1_12 : pj (regOf Try.f6 1) 12 = some (some 26, .binOp .rem 23 (.tmp 25) (.const (.int .u64 256)) 23, 23, none) := by kernel_rfl
theorem p6_1_13 : pj (regOf Try.f6 1) 13 = some (some 27, .convert 23 3 (.tmp 26), 3, none) := by kernel_rfl
theorem p6_1_14 : pj (regOf Try.f6 1) 14 = some (some 0, .assign (.tmp 18), 3, none) := by kernel_rfl
theorem p6_1_15 : pj (regOf Try.f6 1) 15 = some (some 1, .assign (.tmp 23), 3, none) := by kernel_rfl
theorem p6_1_16 : pj (regOf Try.f6 1) 16 = some (some 2, .assign (.tmp 27), 3, none) := by kernel_rfl
theorem p6_2_0 : pj (regOf Try.f6 2) 0 = some (some 29, .move (.tmp 0), 3, none) := by kernel_rfl
theorem p6_2_1 : pj (regOf Try.f6 2) 1 = some (some 30, .move (.tmp 1), 3, none) := by kernel_rfl
theorem p6_2_2 : pj (regOf Try.f6 2) 2 = some (some 31, .call { callee := .value (.func 22), args := #[.tmp 29, .tmp 30], argTypes := #[3, 3] }, 57, none) := by kernel_rfl
theorem p6_2_3 : pj (regOf Try.f6 2) 3 = some (some 28, .move (.tmp 31), 57, none) := by kernel_rfl
theorem p6_2_4 : pj (regOf Try.f6 2) 4 = some (some 32, .extract (.tmp 28) 0, 56, none) := by kernel_rfl
theorem p6_2_5 : pj (regOf Try.f6 2) 5 = some (some 33, .extract (.tmp 28) 1, 30, none) := by kernel_rfl
theorem p6_2_6 : pj (regOf Try.f6 2) 6 = some (some 7, .assign (.tmp 32), 56, none) := by kernel_rfl
theorem p6_2_7 : pj (regOf Try.f6 2) 7 = some (some 8, .assign (.tmp 33), 30, none) := by kernel_rfl
theorem p6_3_0 : pj (regOf Try.f6 3) 0 = some (some 34, .move (.tmp 8), 30, none) := by kernel_rfl
theorem p6_3_1 : pj (regOf Try.f6 3) 1 = some (some 35, .binOp .neq 30 (.tmp 34) (.const (.int .i64 0)) 30, 4, none) := by kernel_rfl
theorem p6_3_2 : pj (regOf Try.f6 3) 2 = some (some 36, .move (.tmp 35), 4, none) := by kernel_rfl
theorem p6_3_3 : pj (regOf Try.f6 3) 3 = some (some 37, .move (.tmp 7), 56, some (2, false)) := by kernel_rfl
theorem g6_3_2 : dstOf (regOf Try.f6 3) 2 = some 36 := by kernel_rfl
theorem p6_3_4 : pj (regOf Try.f6 3) 4 = some (some 38, .binOp .eql 56 (.tmp 37) (.const (.pointer none)) 56, 4, some (2, false)) := by kernel_rfl
theorem p6_3_5 : pj (regOf Try.f6 3) 5 = some (some 39, .pick (.tmp 36) (.const (.bool true)) (.tmp 38), 4, none) := by kernel_rfl
theorem p6_3_6 : pj (regOf Try.f6 3) 6 = some (some 40, .move (.tmp 39), 4, none) := by kernel_rfl
theorem p6_3_7 : pj (regOf Try.f6 3) 7 = some (some 41, .move (.tmp 7), 56, some (6, false)) := by kernel_rfl
theorem g6_3_6 : dstOf (regOf Try.f6 3) 6 = some 40 := by kernel_rfl
theorem p6_3_8 : pj (regOf Try.f6 3) 8 = some (some 42, .move (.tmp 2), 3, some (6, false)) := by kernel_rfl
theorem p6_3_9 : pj (regOf Try.f6 3) 9 = some (some 43, .call { callee := .value (.func 23), args := #[.tmp 41, .tmp 42, .const (.int .i64 0)], argTypes := #[56, 3, 3] }, 30, some (6, false)) := by kernel_rfl
theorem p6_3_10 : pj (regOf Try.f6 3) 10 = some (some 44, .binOp .neq 30 (.tmp 43) (.const (.int .i64 0)) 30, 4, some (6, false)) := by kernel_rfl
theorem p6_3_11 : pj (regOf Try.f6 3) 11 = some (some 45, .pick (.tmp 40) (.const (.bool true)) (.tmp 44), 4, none) := by kernel_rfl
theorem p6_5_0 : pj (regOf Try.f6 5) 0 = some (some 9, .assign (.const (.int .i64 1)), 3, none) := by kernel_rfl
theorem p6_5_1 : pj (regOf Try.f6 5) 1 = some (some 10, .assign (.const (.int .i64 0)), 3, none) := by kernel_rfl
theorem p6_6_0 : pj (regOf Try.f6 6) 0 = some (some 11, .assign (.const (.int .i64 1)), 3, none) := by kernel_rfl
theorem p6_7_0 : pj (regOf Try.f6 7) 0 = some (some 46, .move (.tmp 11), 3, none) := by kernel_rfl
theorem p6_7_1 : pj (regOf Try.f6 7) 1 = some (some 47, .move (.tmp 0), 3, none) := by kernel_rfl
theorem p6_7_2 : pj (regOf Try.f6 7) 2 = some (some 48, .move (.tmp 1), 3, none) := by kernel_rfl
theorem p6_7_3 : pj (regOf Try.f6 7) 3 = some (some 49, .binOp .add 3 (.tmp 48) (.const (.int .i64 2)) 3, 3, none) := by kernel_rfl
theorem p6_7_4 : pj (regOf Try.f6 7) 4 = some (some 50, .binOp .mul 3 (.tmp 47) (.tmp 49) 3, 3, none) := by kernel_rfl
theorem p6_7_5 : pj (regOf Try.f6 7) 5 = some (some 51, .binOp .leq 3 (.tmp 46) (.tmp 50) 3, 4, none) := by kernel_rfl
theorem p6_9_0 : pj (regOf Try.f6 9) 0 = some (some 55, .move (.tmp 7), 56, none) := by kernel_rfl
theorem p6_9_1 : pj (regOf Try.f6 9) 1 = some (some 56, .move (.tmp 11), 3, none) := by kernel_rfl
theorem p6_9_2 : pj (regOf Try.f6 9) 2 = some (some 57, .call { callee := .value (.func 24), args := #[.tmp 55, .tmp 56], argTypes := #[56, 3] }, 59, none) := by kernel_rfl
theorem p6_9_3 : pj (regOf Try.f6 9) 3 = some (some 54, .move (.tmp 57), 59, none) := by kernel_rfl
theorem p6_9_4 : pj (regOf Try.f6 9) 4 = some (some 58, .extract (.tmp 54) 0, 35, none) := by kernel_rfl
theorem p6_9_5 : pj (regOf Try.f6 9) 5 = some (some 59, .extract (.tmp 54) 1, 35, none) := by kernel_rfl
theorem p6_9_6 : pj (regOf Try.f6 9) 6 = some (some 12, .assign (.tmp 58), 35, none) := by kernel_rfl
theorem p6_9_7 : pj (regOf Try.f6 9) 7 = some (some 13, .assign (.tmp 59), 35, none) := by kernel_rfl
theorem p6_10_0 : pj (regOf Try.f6 10) 0 = some (some 60, .move (.tmp 9), 3, none) := by kernel_rfl
theorem p6_10_1 : pj (regOf Try.f6 10) 1 = some (some 61, .move (.tmp 12), 35, none) := by kernel_rfl
theorem p6_10_2 : pj (regOf Try.f6 10) 2 = some (some 62, .call { callee := .builtin .len, args := #[.tmp 61], argTypes := #[35] }, 3, none) := by kernel_rfl
theorem p6_10_3 : pj (regOf Try.f6 10) 3 = some (some 63, .binOp .add 3 (.tmp 60) (.tmp 62) 3, 3, none) := by kernel_rfl
theorem p6_10_4 : pj (regOf Try.f6 10) 4 = some (some 9, .assign (.tmp 63), 3, none) := by kernel_rfl
theorem p6_11_0 : pj (regOf Try.f6 11) 0 = some (some 64, .move (.tmp 10), 3, none) := by kernel_rfl
theorem p6_11_1 : pj (regOf Try.f6 11) 1 = some (some 65, .move (.tmp 13), 35, none) := by kernel_rfl
theorem p6_11_2 : pj (regOf Try.f6 11) 2 = some (some 66, .call { callee := .builtin .len, args := #[.tmp 65], argTypes := #[35] }, 3, none) := by kernel_rfl
theorem p6_11_3 : pj (regOf Try.f6 11) 3 = some (some 67, .binOp .add 3 (.tmp 64) (.tmp 66) 3, 3, none) := by kernel_rfl
theorem p6_11_4 : pj (regOf Try.f6 11) 4 = some (some 10, .assign (.tmp 67), 3, none) := by kernel_rfl
theorem p6_8_0 : pj (regOf Try.f6 8) 0 = some (some 52, .move (.tmp 11), 3, none) := by kernel_rfl
theorem p6_8_1 : pj (regOf Try.f6 8) 1 = some (some 53, .binOp .add 3 (.tmp 52) (.const (.int .i64 1)) 3, 3, none) := by kernel_rfl
theorem p6_8_2 : pj (regOf Try.f6 8) 2 = some (some 11, .assign (.tmp 53), 3, none) := by kernel_rfl
theorem p6_12_0 : pj (regOf Try.f6 12) 0 = some (some 68, .call { callee := .value (.func 25), args := #[], argTypes := #[] }, 4, none) := by kernel_rfl
theorem cl25 : callable Try.f25 = true := by kernel_rfl
theorem p6_12_1 : pj (regOf Try.f6 12) 1 = some (some 69, .move (.tmp 68), 4, none) := by kernel_rfl
theorem p6_12_2 : pj (regOf Try.f6 12) 2 = some (some 70, .move (.tmp 9), 3, some (1, true)) := by kernel_rfl
theorem g6_12_1 : dstOf (regOf Try.f6 12) 1 = some 69 := by kernel_rfl
theorem p6_12_3 : pj (regOf Try.f6 12) 3 = some (some 71, .move (.tmp 1), 3, some (1, true)) := by kernel_rfl
theorem p6_12_4 : pj (regOf Try.f6 12) 4 = some (some 72, .binOp .eql 3 (.tmp 70) (.tmp 71) 3, 4, some (1, true)) := by kernel_rfl
theorem p6_12_5 : pj (regOf Try.f6 12) 5 = some (some 73, .pick (.tmp 69) (.tmp 72) (.const (.bool false)), 4, none) := by kernel_rfl
theorem p6_12_6 : pj (regOf Try.f6 12) 6 = some (some 74, .move (.tmp 73), 4, none) := by kernel_rfl
theorem p6_12_7 : pj (regOf Try.f6 12) 7 = some (some 75, .move (.tmp 10), 3, some (6, true)) := by kernel_rfl
theorem g6_12_6 : dstOf (regOf Try.f6 12) 6 = some 74 := by kernel_rfl
theorem p6_12_8 : pj (regOf Try.f6 12) 8 = some (some 76, .binOp .eql 3 (.tmp 75) (.const (.int .i64 1)) 3, 4, some (6, true)) := by kernel_rfl
theorem p6_12_9 : pj (regOf Try.f6 12) 9 = some (some 77, .pick (.tmp 74) (.tmp 76) (.const (.bool false)), 4, none) := by kernel_rfl
theorem p6_12_10 : pj (regOf Try.f6 12) 10 = some (some 78, .move (.tmp 77), 4, none) := by kernel_rfl
theorem p6_12_11 : pj (regOf Try.f6 12) 11 = some (some 79, .move (.tmp 7), 56, some (10, true)) := by kernel_rfl
theorem g6_12_10 : dstOf (regOf Try.f6 12) 10 = some 78 := by kernel_rfl
theorem p6_12_12 : pj (regOf Try.f6 12) 12 = some (some 80, .call { callee := .value (.func 26), args := #[.tmp 79], argTypes := #[56] }, 35, some (10, true)) := by kernel_rfl
theorem cl26 : callable Try.f26 = true := by kernel_rfl
theorem p6_12_13 : pj (regOf Try.f6 12) 13 = some (some 81, .call { callee := .builtin .len, args := #[.tmp 80], argTypes := #[35] }, 3, some (10, true)) := by kernel_rfl
theorem p6_12_14 : pj (regOf Try.f6 12) 14 = some (some 82, .binOp .eql 3 (.tmp 81) (.const (.int .i64 0)) 3, 4, some (10, true)) := by kernel_rfl
theorem p6_12_15 : pj (regOf Try.f6 12) 15 = some (some 83, .pick (.tmp 78) (.tmp 82) (.const (.bool false)), 4, none) := by kernel_rfl
theorem p6_12_16 : pj (regOf Try.f6 12) 16 = some (some 84, .move (.tmp 83), 4, none) := by kernel_rfl
theorem p6_12_17 : pj (regOf Try.f6 12) 17 = some (some 85, .move (.tmp 7), 56, some (16, true)) := by kernel_rfl
theorem g6_12_16 : dstOf (regOf Try.f6 12) 16 = some 84 := by kernel_rfl
theorem p6_12_18 : pj (regOf Try.f6 12) 18 = some (some 86, .move (.tmp 2), 3, some (16, true)) := by kernel_rfl
theorem p6_12_19 : pj (regOf Try.f6 12) 19 = some (some 87, .call { callee := .value (.func 27), args := #[.tmp 85, .tmp 86], argTypes := #[56, 3] }, 4, some (16, true)) := by kernel_rfl
theorem cl27 : callable Try.f27 = true := by kernel_rfl
theorem p6_12_20 : pj (regOf Try.f6 12) 20 = some (some 88, .unOp .not 4 (.tmp 87), 4, some (16, true)) := by kernel_rfl
theorem p6_12_21 : pj (regOf Try.f6 12) 21 = some (some 89, .pick (.tmp 84) (.tmp 88) (.const (.bool false)), 4, none) := by kernel_rfl
theorem p6_12_22 : pj (regOf Try.f6 12) 22 = some (some 6, .assign (.tmp 89), 4, none) := by kernel_rfl
set_option maxHeartbeats 4000000 in
theorem walk (a0 : Int) (a1 : Int) (a2 : Int) (w : World) (w0 : (Lit.int .i64 a0).wf = true) (w1 : (Lit.int .i64 a1).wf = true) (w2 : (Lit.int .i64 a2).wf = true) :
    Calls Try.prog 6 #[.int .i64 a0, .int .i64 a1, .int .i64 a2] w fun e w' => e = .returned (.bool true) ∧ Below w.heap.size w w' := by
  have K_0 := Kp.refl w (fun _ => False)
  obtain ⟨wt, hwt⟩ : ∃ x : Int, 1 + a0 % 18446744073709551616 % 20 = x := ⟨_, rfl⟩
  have hbwt : 1 ≤ wt ∧ wt ≤ 20 := by omega
  obtain ⟨tr, htr⟩ : ∃ x : Int, 1 + a1 % 18446744073709551616 % 16 = x := ⟨_, rfl⟩
  have hbtr : 1 ≤ tr ∧ tr ≤ 16 := by omega
  obtain ⟨s, hs⟩ : ∃ x : Int, a2 % 18446744073709551616 % 256 = x := ⟨_, rfl⟩
  have hbs : 0 ≤ s ∧ s < 256 := by omega
  have hokS : okS s 0 = true := by unfold okS seqB timeB; rw [decide_eq_true hbs]; rfl
  refine enter (args := [Value.int .i64 a0, Value.int .i64 a1, Value.int .i64 a2]) (n := 90) Try.func6 body6 rfl rfl rfl ?_
  intro a hE
  refine c_reg R6_0_l ?_
  refine q0 p6_0_0 hE (st_assign rfl) ?_
  clear hE a; intro a hE
  refine p_nil ?_
  refine x_norm ?_
  refine c_reg R6_1_l ?_
  refine q0 p6_1_0 hE (st_move rfl) ?_
  clear hE a; intro a hE
  refine q0 p6_1_1 hE (st_conv (z := (a0 % 18446744073709551616)) (by kernel_rfl) Try.underlying23 rfl (IntKind.wrap_u64 _)) ?_
  clear hE a; intro a hE
  refine q0 p6_1_2 hE (st_rem (z := (a0 % 18446744073709551616) % 20) rfl rfl (by omega) (Int.tmod_eq_emod_of_nonneg (by omega))) ?_
  clear hE a; intro a hE
  refine q0 p6_1_3 hE (st_conv (z := ((a0 % 18446744073709551616) % 20)) (by kernel_rfl) Try.underlying3 rfl (wr_i64 _ (by omega) (by omega))) ?_
  clear hE a; intro a hE
  refine q0 p6_1_4 hE (st_add (z := wt) rfl rfl (by rw [hwt]; exact wr_i64 _ (by omega) (by omega))) ?_
  clear hE a; intro a hE
  refine q0 p6_1_5 hE (st_move rfl) ?_
  clear hE a; intro a hE
  refine q0 p6_1_6 hE (st_conv (z := (a1 % 18446744073709551616)) (by kernel_rfl) Try.underlying23 rfl (IntKind.wrap_u64 _)) ?_
  clear hE a; intro a hE
  refine q0 p6_1_7 hE (st_rem (z := (a1 % 18446744073709551616) % 16) rfl rfl (by omega) (Int.tmod_eq_emod_of_nonneg (by omega))) ?_
  clear hE a; intro a hE
  refine q0 p6_1_8 hE (st_conv (z := ((a1 % 18446744073709551616) % 16)) (by kernel_rfl) Try.underlying3 rfl (wr_i64 _ (by omega) (by omega))) ?_
  clear hE a; intro a hE
  refine q0 p6_1_9 hE (st_add (z := tr) rfl rfl (by rw [htr]; exact wr_i64 _ (by omega) (by omega))) ?_
  clear hE a; intro a hE
  refine q0 p6_1_10 hE (st_move rfl) ?_
  clear hE a; intro a hE
  refine q0 p6_1_11 hE (st_conv (z := (a2 % 18446744073709551616)) (by kernel_rfl) Try.underlying23 rfl (IntKind.wrap_u64 _)) ?_
  clear hE a; intro a hE
  refine q0 p6_1_12 hE (st_rem (z := (a2 % 18446744073709551616) % 256) rfl rfl (by omega) (Int.tmod_eq_emod_of_nonneg (by omega))) ?_
  clear hE a; intro a hE
  refine q0 p6_1_13 hE (st_conv (z := s) (by kernel_rfl) Try.underlying3 rfl (by rw [hs]; exact wr_i64 _ (by omega) (by omega))) ?_
  clear hE a; intro a hE
  refine q0 p6_1_14 hE (st_assign rfl) ?_
  clear hE a; intro a hE
  refine q0 p6_1_15 hE (st_assign rfl) ?_
  clear hE a; intro a hE
  refine q0 p6_1_16 hE (st_assign rfl) ?_
  clear hE a; intro a hE
  refine p_nil ?_
  refine x_norm ?_
  refine c_reg R6_2_l ?_
  refine q0 p6_2_0 hE (st_move rfl) ?_
  clear hE a; intro a hE
  refine q0 p6_2_1 hE (st_move rfl) ?_
  clear hE a; intro a hE
  refine p_cons (s_call (xs := [Operand.tmp 29, Operand.tmp 30]) (args := [Value.int .i64 wt, Value.int .i64 tr]) p6_2_2 hE wn_none rfl rfl Try.func22 cl22 (new_ok wt tr ⟨⟨by omega, by omega⟩, by omega, by omega⟩ _) ?_)
  rintro e w1 ⟨gW, gN, rfl, zW9, zN9, n_gW_gN, B_gW, B_gN, hk⟩
  have z_0_gW := Nat.le_trans K_0.kept.1 zW9
  have z_0_gN := Nat.le_trans K_0.kept.1 zN9
  replace K_0 := K_0.then_ hk (fun _ h => h.elim)
  refine ⟨_, rfl, ?_⟩
  clear hE a; intro a hE
  refine q0 p6_2_3 hE (st_move rfl) ?_
  clear hE a; intro a hE
  refine q0 p6_2_4 hE (st_extract rfl rfl) ?_
  clear hE a; intro a hE
  refine q0 p6_2_5 hE (st_extract rfl rfl) ?_
  clear hE a; intro a hE
  refine q0 p6_2_6 hE (st_assign rfl) ?_
  clear hE a; intro a hE
  refine q0 p6_2_7 hE (st_assign rfl) ?_
  clear hE a; intro a hE
  refine p_nil ?_
  refine x_norm ?_
  refine wp_seq ?_
  refine c_reg R6_3_l ?_
  refine q0 p6_3_0 hE (st_move rfl) ?_
  clear hE a; intro a hE
  refine q0 p6_3_1 hE (st_neq (b := false) rfl rfl (by decide)) ?_
  clear hE a; intro a hE
  refine q0 p6_3_2 hE (st_move rfl) ?_
  clear hE a; intro a hE
  refine p_cons (s_still p6_3_3 hE (wn_some g6_3_2 rfl rfl) rfl (st_move rfl) ?_)
  clear hE a; intro a hE
  refine p_cons (s_still p6_3_4 hE (wn_some g6_3_2 rfl rfl) rfl (st_eqlP (b := false) tP56 rfl rfl rfl) ?_)
  clear hE a; intro a hE
  refine q0 p6_3_5 hE (st_pick rfl rfl) ?_
  clear hE a; intro a hE
  refine q0 p6_3_6 hE (st_move rfl) ?_
  clear hE a; intro a hE
  refine p_cons (s_still p6_3_7 hE (wn_some g6_3_6 rfl rfl) rfl (st_move rfl) ?_)
  clear hE a; intro a hE
  refine p_cons (s_still p6_3_8 hE (wn_some g6_3_6 rfl rfl) rfl (st_move rfl) ?_)
  clear hE a; intro a hE
  refine p_cons (s_call (xs := [Operand.tmp 41, Operand.tmp 42, Operand.const (Value.int IntKind.i64 0)]) (args := [Value.pointer (some ⟨gW, 0, none⟩), Value.int .i64 s, Value.int .i64 0]) p6_3_9 hE (wn_some g6_3_6 rfl rfl) rfl rfl Try.func23 cl23 (send_yes gW gN 0 (#[]) ([]) wt tr s 0 _ ⟨by omega, by omega⟩ hokS (l' := [(s, (wt, 1))]) (by rw [Int.zero_add]; rfl) B_gW B_gN (Mi.mapi_nil encO 0) n_gW_gN) ?_)
  rintro e w3 ⟨esm2, ckm2, rfl, MFm2, B_gN', hk⟩
  replace B_gW := kp_blk B_gW hk n_gW_gN
  replace K_0 := K_0.then_ hk (fun k h => by rw [show k = gN from h]; exact Or.inr z_0_gN)
  replace B_gN := B_gN'
  refine ⟨_, rfl, ?_⟩
  clear hE a; intro a hE
  refine p_cons (s_still p6_3_10 hE (wn_some g6_3_6 rfl rfl) rfl (st_neq (b := false) rfl rfl (by decide)) ?_)
  clear hE a; intro a hE
  refine q0 p6_3_11 hE (st_pick rfl rfl) ?_
  clear hE a; intro a hE
  refine p_nil ?_
  refine x_norm ?_
  refine c_cond (t := false) hE rfl ?_
  refine wp_skip ?_
  refine x_norm ?_
  refine c_reg R6_5_l ?_
  refine q0 p6_5_0 hE (st_assign rfl) ?_
  clear hE a; intro a hE
  refine q0 p6_5_1 hE (st_assign rfl) ?_
  clear hE a; intro a hE
  refine p_nil ?_
  refine x_norm ?_
  refine wp_seq ?_
  refine c_reg R6_6_l ?_
  refine q0 p6_6_0 hE (st_assign rfl) ?_
  clear hE a; intro a hE
  refine p_nil ?_
  refine x_norm ?_
  refine wp_block ?_
  have hmul : 0 ≤ wt * (tr + 2) ∧ wt * (tr + 2) ≤ 20 * (tr + 2) := ⟨Int.mul_nonneg (by omega) (by omega), Int.mul_le_mul_of_nonneg_right (by omega) (by omega)⟩
  refine c_loop (α := Nat) (fun tt a W => ∃ (es9 : Array MapEntry), ∃ (ck9 : Nat), ∃ (l9 : LO), ∃ (sn : Int), ∃ (gn : Int), En 90 a [(0, Value.int .i64 wt), (1, Value.int .i64 tr), (2, Value.int .i64 s), (6, Value.bool false), (7, Value.pointer (some ⟨gW, 0, none⟩)), (8, Value.int .i64 0), (45, Value.bool false), (11, Value.int .i64 (tt : Int)), (9, Value.int .i64 sn), (10, Value.int .i64 gn)] ∧ MapI encO es9 ck9 l9 ∧ Inv wt tr s tt l9 sn gn ∧ 1 ≤ tt ∧ W.heap[gW]? = some (.cells #[Value.int .i64 wt, Value.int .i64 tr, Value.map (some gN)] 82 (0, 0)) ∧ W.heap[gN]? = some (.map es9 ck9) ∧ Kp w W (fun _ => False)) (fun tt => 1000 - tt) (1) ?_ ?_
  ·
    exact ⟨esm2, ckm2, [(s, (wt, 1))], 1, 0, En.sub hE ⟨rfl, rfl, rfl, rfl, rfl, rfl, rfl, rfl, rfl, rfl, trivial⟩, MFm2, (.inl ⟨1, wt, rfl, rfl, rfl, by omega, by omega, by omega, by omega⟩), Nat.le_refl _, B_gW, B_gN, K_0⟩
  ·
    clear hE a
    rintro tt a w4 ⟨es9, ck9, l9, sn, gn, hE, MF9, hIv, ht1, B_gW, B_gN, K_0⟩
    refine wp_seq ?_
    rcases Decidable.em ((tt : Int) ≤ wt * (tr + 2)) with hK1 | hK1
    ·
      refine c_reg R6_7_l ?_
      refine q0 p6_7_0 hE (st_move rfl) ?_
      clear hE a; intro a hE
      refine q0 p6_7_1 hE (st_move rfl) ?_
      clear hE a; intro a hE
      refine q0 p6_7_2 hE (st_move rfl) ?_
      clear hE a; intro a hE
      refine q0 p6_7_3 hE (st_add (z := tr + 2) rfl rfl (wr_i64 _ (by omega) (by omega))) ?_
      clear hE a; intro a hE
      refine q0 p6_7_4 hE (st_mul (z := wt * (tr + 2)) rfl rfl (wr_i64 _ (by have := hmul.1; omega) (by have := hmul.2; omega))) ?_
      clear hE a; intro a hE
      refine q0 p6_7_5 hE (st_leq (b := true) rfl rfl (decide_eq_true hK1)) ?_
      clear hE a; intro a hE
      refine p_nil ?_
      refine x_norm ?_
      refine c_cond (t := true) hE rfl ?_
      refine wp_skip ?_
      refine x_norm ?_
      refine wp_seq ?_
      refine wp_block ?_
      refine c_reg R6_9_l ?_
      have htB : timeB (tt : Int) = true := decide_eq_true ⟨by omega, by have := hmul.2; omega⟩
      have hIo := inv_ok hbwt hbtr.2 hbs hIv
      have hIv9 := inv_next hbwt.1 htB hIv
      refine q0 p6_9_0 hE (st_move rfl) ?_
      clear hE a; intro a hE
      refine q0 p6_9_1 hE (st_move rfl) ?_
      clear hE a; intro a hE
      have hnb_gW := blk_lt B_gW
      have hnb_gN := blk_lt B_gN
      have hnz_0 := K_0.kept.1
      have hctQ5 := due_any gW gN ck9 es9 l9 wt tr (tt : Int) w4 ⟨by omega, by omega⟩ (by omega) hIo.1 B_gW B_gN MF9 n_gW_gN
      obtain ⟨Q5, hQ5⟩ : ∃ Q, (dueS wt tr (tt : Int) l9) = Q := ⟨_, rfl⟩
      rw [hQ5] at hctQ5
      refine p_cons (s_call (xs := [Operand.tmp 55, Operand.tmp 56]) (args := [Value.pointer (some ⟨gW, 0, none⟩), Value.int .i64 (tt : Int)]) p6_9_2 hE wn_none rfl rfl Try.func24 cl24 (hctQ5) ?_)
      rintro e w16 ⟨A6, c7, B8, d9, es10, ck11, rfl, O_qa12, O_ql13, hNN14, MF15, hok_MF15, B_gN', hk⟩
      replace B_gW := kp_blk B_gW hk n_gW_gN
      replace K_0 := K_0.then_ hk (fun k h => by rw [show k = gN from h]; exact Or.inr z_0_gN)
      replace B_gN := B_gN'
      skip
      have Nb_qa12_gW : ¬ OB A6 gW := fun h => by have := (own_ob O_qa12 h).1; have := hnb_gW; omega
      have Nb_qa12_gN : ¬ OB A6 gN := fun h => by have := (own_ob O_qa12 h).1; have := hnb_gN; omega
      have Z_0_qa12 : ∀ k, OB A6 k → (fun _ => False) k ∨ w.heap.size ≤ k := fun k h => .inr (by have := (own_ob O_qa12 h).1; have := hnz_0; omega)
      replace O_qa12 := own_lower O_qa12 hnz_0
      have Nb_ql13_gW : ¬ OB B8 gW := fun h => by have := (own_ob O_ql13 h).1; have := hnb_gW; omega
      have Nb_ql13_gN : ¬ OB B8 gN := fun h => by have := (own_ob O_ql13 h).1; have := hnb_gN; omega
      have Z_0_ql13 : ∀ k, OB B8 k → (fun _ => False) k ∨ w.heap.size ≤ k := fun k h => .inr (by have := (own_ob O_ql13 h).1; have := hnz_0; omega)
      have NN_ql13_qa12 : ∀ k, OB B8 k → ¬ OB A6 k := fun k h h2 => hNN14 k h2 h
      have NN_qa12_ql13 : ∀ k, OB A6 k → ¬ OB B8 k := fun k h h2 => NN_ql13_qa12 k h2 h
      replace O_ql13 := own_lower O_ql13 hnz_0
      rw [hQ5] at hIv9
      obtain ⟨hIv9a, hlen1, hlen2⟩ := hIv9
      have hIv9 : _ ∧ True := ⟨hIv9a, trivial⟩
      refine ⟨_, rfl, ?_⟩
      clear hE a; intro a hE
      refine q0 p6_9_3 hE (st_move rfl) ?_
      clear hE a; intro a hE
      refine q0 p6_9_4 hE (st_extract rfl rfl) ?_
      clear hE a; intro a hE
      refine q0 p6_9_5 hE (st_extract rfl rfl) ?_
      clear hE a; intro a hE
      refine q0 p6_9_6 hE (st_assign rfl) ?_
      clear hE a; intro a hE
      refine q0 p6_9_7 hE (st_assign rfl) ?_
      clear hE a; intro a hE
      refine p_nil ?_
      refine x_norm ?_
      refine c_reg R6_10_l ?_
      refine q0 p6_10_0 hE (st_move rfl) ?_
      clear hE a; intro a hE
      refine q0 p6_10_1 hE (st_move rfl) ?_
      clear hE a; intro a hE
      refine q0 p6_10_2 hE (st_len Try.underlying35 rfl) ?_
      clear hE a; intro a hE
      refine q0 p6_10_3 hE (st_add (z := sn + (Q5.again.length : Int)) rfl rfl (wr_i64 _ (by omega) (by omega))) ?_
      clear hE a; intro a hE
      refine q0 p6_10_4 hE (st_assign rfl) ?_
      clear hE a; intro a hE
      refine p_nil ?_
      refine x_norm ?_
      refine c_regL R6_11_l ?_
      refine q0 p6_11_0 hE (st_move rfl) ?_
      clear hE a; intro a hE
      refine q0 p6_11_1 hE (st_move rfl) ?_
      clear hE a; intro a hE
      refine q0 p6_11_2 hE (st_len Try.underlying35 rfl) ?_
      clear hE a; intro a hE
      refine q0 p6_11_3 hE (st_add (z := gn + (Q5.lost.length : Int)) rfl rfl (wr_i64 _ (by omega) (by omega))) ?_
      clear hE a; intro a hE
      refine q0 p6_11_4 hE (st_assign rfl) ?_
      clear hE a; intro a hE
      refine p_nil ?_
      refine x_normB ?_
      refine x_norm ?_
      refine c_regL R6_8_l ?_
      refine q0 p6_8_0 hE (st_move rfl) ?_
      clear hE a; intro a hE
      refine q0 p6_8_1 hE (st_add (z := (tt : Int) + 1) rfl rfl (wr_i64 _ (by omega) (by omega))) ?_
      clear hE a; intro a hE
      refine q0 p6_8_2 hE (st_assign rfl) ?_
      clear hE a; intro a hE
      refine p_nil ?_
      refine x_norm ?_
      exact ⟨tt + 1, by omega, es10, ck11, Q5.l, _, _, En.sub hE ⟨rfl, rfl, rfl, rfl, rfl, rfl, rfl, rfl, rfl, rfl, trivial⟩, MF15, hIv9.1, by omega, B_gW, B_gN, K_0⟩
    ·
      refine c_reg R6_7_l ?_
      refine q0 p6_7_0 hE (st_move rfl) ?_
      clear hE a; intro a hE
      refine q0 p6_7_1 hE (st_move rfl) ?_
      clear hE a; intro a hE
      refine q0 p6_7_2 hE (st_move rfl) ?_
      clear hE a; intro a hE
      refine q0 p6_7_3 hE (st_add (z := tr + 2) rfl rfl (wr_i64 _ (by omega) (by omega))) ?_
      clear hE a; intro a hE
      refine q0 p6_7_4 hE (st_mul (z := wt * (tr + 2)) rfl rfl (wr_i64 _ (by have := hmul.1; omega) (by have := hmul.2; omega))) ?_
      clear hE a; intro a hE
      refine q0 p6_7_5 hE (st_leq (b := false) rfl rfl (decide_eq_false hK1)) ?_
      clear hE a; intro a hE
      refine p_nil ?_
      refine x_norm ?_
      refine c_cond (t := false) hE rfl ?_
      refine wp_exit ?_
      refine x_exit ?_
      refine x_exit ?_
      obtain ⟨rfl, hs0, hg0⟩ := inv_end (by omega) (by omega) hK1 hIv
      refine x_in ?_
      refine x_norm ?_
      refine c_reg R6_12_l ?_
      refine p_cons (s_call (xs := []) (args := []) p6_12_0 hE wn_none rfl rfl Try.func25 cl25 (kn20  _) ?_)
      rintro e w17 ⟨rfl, hk⟩
      replace B_gW := kp_blk B_gW hk (fun h => h)
      replace B_gN := kp_blk B_gN hk (fun h => h)
      replace K_0 := K_0.then_ hk (fun _ h => h.elim)
      refine ⟨_, rfl, ?_⟩
      clear hE a; intro a hE
      refine q0 p6_12_1 hE (st_move rfl) ?_
      clear hE a; intro a hE
      refine p_cons (s_still p6_12_2 hE (wn_some g6_12_1 rfl rfl) rfl (st_move rfl) ?_)
      clear hE a; intro a hE
      refine p_cons (s_still p6_12_3 hE (wn_some g6_12_1 rfl rfl) rfl (st_move rfl) ?_)
      clear hE a; intro a hE
      refine p_cons (s_still p6_12_4 hE (wn_some g6_12_1 rfl rfl) rfl (st_eql (b := true) rfl rfl (decide_eq_true hs0)) ?_)
      clear hE a; intro a hE
      refine q0 p6_12_5 hE (st_pick rfl rfl) ?_
      clear hE a; intro a hE
      refine q0 p6_12_6 hE (st_move rfl) ?_
      clear hE a; intro a hE
      refine p_cons (s_still p6_12_7 hE (wn_some g6_12_6 rfl rfl) rfl (st_move rfl) ?_)
      clear hE a; intro a hE
      refine p_cons (s_still p6_12_8 hE (wn_some g6_12_6 rfl rfl) rfl (st_eql (b := true) rfl rfl (decide_eq_true hg0)) ?_)
      clear hE a; intro a hE
      refine q0 p6_12_9 hE (st_pick rfl rfl) ?_
      clear hE a; intro a hE
      refine q0 p6_12_10 hE (st_move rfl) ?_
      clear hE a; intro a hE
      refine p_cons (s_still p6_12_11 hE (wn_some g6_12_10 rfl rfl) rfl (st_move rfl) ?_)
      clear hE a; intro a hE
      have hnb_gW := blk_lt B_gW
      have hnb_gN := blk_lt B_gN
      have hnz_0 := K_0.kept.1
      refine p_cons (s_call (xs := [Operand.tmp 79]) (args := [Value.pointer (some ⟨gW, 0, none⟩)]) p6_12_12 hE (wn_some g6_12_10 rfl rfl) rfl rfl Try.func26 cl26 (open_any gW gN ck9 es9 ([]) wt tr _ (by decide) B_gW B_gN MF9 n_gW_gN) ?_)
      rintro e w21 ⟨A19, c20, rfl, O_q18, hk⟩
      replace B_gW := kp_blk B_gW hk (fun h => h)
      replace B_gN := kp_blk B_gN hk (fun h => h)
      replace K_0 := K_0.then_ hk (fun _ h => h.elim)
      have Nb_q18_gW : ¬ OB A19 gW := fun h => by have := (own_ob O_q18 h).1; have := hnb_gW; omega
      have Nb_q18_gN : ¬ OB A19 gN := fun h => by have := (own_ob O_q18 h).1; have := hnb_gN; omega
      have Z_0_q18 : ∀ k, OB A19 k → (fun _ => False) k ∨ w.heap.size ≤ k := fun k h => .inr (by have := (own_ob O_q18 h).1; have := hnz_0; omega)
      replace O_q18 := own_lower O_q18 hnz_0
      refine ⟨_, rfl, ?_⟩
      clear hE a; intro a hE
      refine p_cons (s_still p6_12_13 hE (wn_some g6_12_10 rfl rfl) rfl (st_len Try.underlying35 rfl) ?_)
      clear hE a; intro a hE
      refine p_cons (s_still p6_12_14 hE (wn_some g6_12_10 rfl rfl) rfl (st_eql (b := true) rfl rfl (by simp)) ?_)
      clear hE a; intro a hE
      refine q0 p6_12_15 hE (st_pick rfl rfl) ?_
      clear hE a; intro a hE
      refine q0 p6_12_16 hE (st_move rfl) ?_
      clear hE a; intro a hE
      refine p_cons (s_still p6_12_17 hE (wn_some g6_12_16 rfl rfl) rfl (st_move rfl) ?_)
      clear hE a; intro a hE
      refine p_cons (s_still p6_12_18 hE (wn_some g6_12_16 rfl rfl) rfl (st_move rfl) ?_)
      clear hE a; intro a hE
      refine p_cons (s_call (xs := [Operand.tmp 85, Operand.tmp 86]) (args := [Value.pointer (some ⟨gW, 0, none⟩), Value.int .i64 s]) p6_12_19 hE (wn_some g6_12_16 rfl rfl) rfl rfl Try.func27 cl27 (ack_no gW gN ck9 es9 ([]) wt tr s _ rfl B_gW B_gN MF9 n_gW_gN) ?_)
      rintro e w23 ⟨esm22, ckm22, rfl, MFm22, B_gN', hk⟩
      replace B_gW := kp_blk B_gW hk n_gW_gN
      replace O_q18 := own_keep O_q18 hk (fun k hk2 h2 => Nb_q18_gN (by rw [show k = gN from h2] at hk2; exact hk2))
      replace K_0 := K_0.then_ hk (fun k h => by rw [show k = gN from h]; exact Or.inr z_0_gN)
      replace B_gN := B_gN'
      refine ⟨_, rfl, ?_⟩
      clear hE a; intro a hE
      refine p_cons (s_still p6_12_20 hE (wn_some g6_12_16 rfl rfl) rfl (st_not rfl rfl) ?_)
      clear hE a; intro a hE
      refine q0 p6_12_21 hE (st_pick rfl rfl) ?_
      clear hE a; intro a hE
      refine q0 p6_12_22 hE (st_assign rfl) ?_
      clear hE a; intro a hE
      refine p_nil ?_
      refine x_norm ?_
      refine wp_ret ?_
      refine ret_one (v := Value.bool true) rfl hE (.tmp rfl .nil) ?_
      exact ⟨rfl, K_0.to (Nat.le_refl _) (fun _ h => h.elim)⟩
end Go.Proofs.Ytlmjbmeigclihaa.Ut
