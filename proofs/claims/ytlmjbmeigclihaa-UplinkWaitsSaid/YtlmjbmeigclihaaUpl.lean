/- Package uplink: time, New, Send, Ack, Open, Due, Clear. -/
import Derived.Test.YtlmjbmeigclihaaChecked
import Derived.Test.YtlmjbmeigclihaaMso
import Derived.LoopN
set_option maxRecDepth 100000
set_option linter.unusedVariables false
set_option linter.unusedSimpArgs false
namespace Go.Proofs.Ytlmjbmeigclihaa.Up
open Go.RowKit Go.Proofs.YtlmjbmeigclihaaW.PrintWords Go.Proofs.Ytlmjbmeigclihaa.Ds
open Go.Proofs.Ytlmjbmeigclihaa.Pk (Kp)
open Go.Proofs.Ytlmjbmeigclihaa.Mi (st_eqlP st_neqP x_normS x_retS x_exitS MapI getI putI delI)
abbrev LO := List (Int × (Int × Int))
def encO (o : Int × Int) : Value := .agg #[.int .i64 o.1, .int .i64 o.2]
def timeB (n : Int) : Bool := decide (0 ≤ n ∧ n ≤ 1152921504606846976)
def seqB (n : Int) : Bool := decide (0 ≤ n ∧ n < 256)
def okS (s now : Int) : Bool := seqB s && timeB now
def sendL (l : LO) (wt s now : Int) : LO := if okS s now then putI l s (now + wt, 1) else l
/-- What is open is as it may be. -/
def Ok (l : LO) : Prop := ∀ p ∈ l, (0 ≤ p.1 ∧ p.1 < 256) ∧ (0 ≤ p.2.1 ∧ p.2.1 ≤ 2305843009213693952) ∧ 1 ≤ p.2.2 ∧ p.2.2 ≤ 16
structure St where
  again : List Int
  lost : List Int
  l : LO
def at0 (l : LO) (s : Int) : Int × Int := (getI l s).getD (0, 0)
def stepD (wt tr now : Int) (q : St) (s : Int) : St :=
  if now < (at0 q.l s).1 then q
  else if tr ≤ (at0 q.l s).2 then ⟨q.again, q.lost ++ [s], delI q.l s⟩
  else ⟨q.again ++ [s], q.lost, putI q.l s (now + wt, (at0 q.l s).2 + 1)⟩
def dueS (wt tr now : Int) (l : LO) : St := if timeB now then (Ms.ks l).foldl (stepD wt tr now) ⟨[], [], l⟩ else ⟨[], [], l⟩
theorem ok_at {l : LO} (h : Ok l) (s : Int) : 0 ≤ (at0 l s).1 ∧ (at0 l s).1 ≤ 2305843009213693952 ∧ 0 ≤ (at0 l s).2 ∧ (at0 l s).2 ≤ 16 := by
  unfold at0
  cases hg : getI l s with
  | none => exact ⟨by decide, by decide, by decide, by decide⟩
  | some v =>
    have h2 := h _ (Mi.getI_mem hg)
    show 0 ≤ v.1 ∧ v.1 ≤ 2305843009213693952 ∧ 0 ≤ v.2 ∧ v.2 ≤ 16
    exact ⟨h2.2.1.1, h2.2.1.2, by have := h2.2.2.1; exact Int.le_trans (by decide) this, h2.2.2.2⟩
theorem ok_del {l : LO} (h : Ok l) (s : Int) : Ok (delI l s) := fun p hp => h p ((Mi.delI_sub s).subset hp)
theorem ok_put {l : LO} (hn : (l.map (·.1)).Nodup) (h : Ok l) {s : Int} {v : Int × Int} (hs : 0 ≤ s ∧ s < 256) (hv : (0 ≤ v.1 ∧ v.1 ≤ 2305843009213693952) ∧ 1 ≤ v.2 ∧ v.2 ≤ 16) : Ok (putI l s v) := fun p hp => by
  have hg := Mi.getI_of_mem (Mi.putI_nodup hn s v) (x := p.1) (v := p.2) hp
  rw [Mi.getI_put] at hg
  split at hg
  · rename_i e
    injection hg with hg
    rw [e, ← hg]
    exact ⟨hs, hv⟩
  · exact h _ (Mi.getI_mem hg)
theorem nodup_lt : ∀ (n : Nat) (l : List Nat), l.Nodup → (∀ x ∈ l, x < n) → l.length ≤ n
  | 0, l, _, h => by
    cases l with
    | nil => exact Nat.le_refl _
    | cons a l => exact absurd (h a (List.mem_cons_self ..)) (Nat.not_lt_zero _)
  | n + 1, l, hn, h => by
    have h1 := nodup_lt n (l.erase n) (hn.erase n) (fun x hx => by
      have h2 := h x (List.mem_of_mem_erase hx)
      have h3 : x ≠ n := fun e => by rw [e, hn.mem_erase_iff] at hx; exact hx.1 rfl
      omega)
    have h2 := List.length_erase (a := n) (l := l)
    split at h2 <;> omega
theorem ok_len {l : LO} (hn : (l.map (·.1)).Nodup) (h : Ok l) : l.length ≤ 256 := by
  have h1 : ((l.map (·.1)).map Int.toNat).Nodup := by
    rw [List.Nodup, List.pairwise_map]
    refine List.Pairwise.imp_of_mem (fun {a b} ha hb hab => ?_) hn
    obtain ⟨p, hp, rfl⟩ := List.mem_map.1 ha
    obtain ⟨q, hq, rfl⟩ := List.mem_map.1 hb
    have h1 := (h p hp).1
    have h2 := (h q hq).1
    omega
  have := nodup_lt 256 _ h1 (fun x hx => by
    obtain ⟨y, hy, rfl⟩ := List.mem_map.1 hx
    obtain ⟨p, hp, rfl⟩ := List.mem_map.1 hy
    have := (h p hp).1
    omega)
  simpa using this
theorem R41_0_l : List.range (regOf Try.f41 0).size = [0] := by kernel_rfl
theorem R41_1_l : List.range (regOf Try.f41 1).size = [0, 1, 2, 3, 4, 5, 6] := by kernel_rfl
theorem body41 : Try.f41.body = some (.seq (.region 0 (regOf Try.f41 0) false) (.seq (.region 1 (regOf Try.f41 1) false) (.ret))) := by kernel_rfl
theorem p41_0_0 : pj (regOf Try.f41 0) 0 = some (some 2, .assign (.const (.bool false)), 4, none) := by kernel_rfl
theorem p41_1_0 : pj (regOf Try.f41 1) 0 = some (some 3, .move (.tmp 0), 3, none) := by kernel_rfl
theorem p41_1_1 : pj (regOf Try.f41 1) 1 = some (some 4, .binOp .geq 3 (.tmp 3) (.const (.int .i64 0)) 3, 4, none) := by kernel_rfl
theorem p41_1_2 : pj (regOf Try.f41 1) 2 = some (some 5, .move (.tmp 4), 4, none) := by kernel_rfl
theorem p41_1_3 : pj (regOf Try.f41 1) 3 = some (some 6, .move (.tmp 0), 3, some (2, true)) := by kernel_rfl
theorem g41_1_2 : dstOf (regOf Try.f41 1) 2 = some 5 := by kernel_rfl
theorem p41_1_4 : pj (regOf Try.f41 1) 4 = some (some 7, .binOp .leq 3 (.tmp 6) (.const (.int .i64 1152921504606846976)) 3, 4, some (2, true)) := by kernel_rfl
theorem p41_1_5 : pj (regOf Try.f41 1) 5 = some (some 8, .pick (.tmp 5) (.tmp 7) (.const (.bool false)), 4, none) := by kernel_rfl
theorem p41_1_6 : pj (regOf Try.f41 1) 6 = some (some 2, .assign (.tmp 8), 4, none) := by kernel_rfl
set_option maxHeartbeats 4000000 in
theorem time_any (n : Int) (b : Bool) (hb : timeB n = b) (w : World) : Calls Try.prog 41 #[.int .i64 n] w fun e w' => e = .returned (.bool b) ∧ Kp w w' (fun _ => False) := by
  have K_0 := Kp.refl w (fun _ => False)
  refine enter (args := [Value.int .i64 n]) (n := 9) Try.func41 body41 rfl rfl rfl ?_
  intro a hE
  refine c_reg R41_0_l ?_
  refine q0 p41_0_0 hE (st_assign rfl) ?_
  clear hE a; intro a hE
  refine p_nil ?_
  refine x_norm ?_
  rcases Decidable.em (0 ≤ n) with hP1 | hP1
  ·
    rcases Decidable.em (n ≤ 1152921504606846976) with hP2 | hP2
    ·
      refine c_reg R41_1_l ?_
      refine q0 p41_1_0 hE (st_move rfl) ?_
      clear hE a; intro a hE
      refine q0 p41_1_1 hE (st_geq (b := true) rfl rfl (decide_eq_true hP1)) ?_
      clear hE a; intro a hE
      refine q0 p41_1_2 hE (st_move rfl) ?_
      clear hE a; intro a hE
      refine p_cons (s_still p41_1_3 hE (wn_some g41_1_2 rfl rfl) rfl (st_move rfl) ?_)
      clear hE a; intro a hE
      refine p_cons (s_still p41_1_4 hE (wn_some g41_1_2 rfl rfl) rfl (st_leq (b := true) rfl rfl (decide_eq_true hP2)) ?_)
      clear hE a; intro a hE
      refine q0 p41_1_5 hE (st_pick rfl rfl) ?_
      clear hE a; intro a hE
      refine q0 p41_1_6 hE (st_assign rfl) ?_
      clear hE a; intro a hE
      refine p_nil ?_
      refine x_norm ?_
      refine wp_ret ?_
      refine ret_one (v := Value.bool true) rfl hE (.tmp rfl .nil) ?_
      exact ⟨by rw [← hb]; unfold timeB; rw [decide_eq_true ⟨hP1, hP2⟩], K_0⟩
    ·
      refine c_reg R41_1_l ?_
      refine q0 p41_1_0 hE (st_move rfl) ?_
      clear hE a; intro a hE
      refine q0 p41_1_1 hE (st_geq (b := true) rfl rfl (decide_eq_true hP1)) ?_
      clear hE a; intro a hE
      refine q0 p41_1_2 hE (st_move rfl) ?_
      clear hE a; intro a hE
      refine p_cons (s_still p41_1_3 hE (wn_some g41_1_2 rfl rfl) rfl (st_move rfl) ?_)
      clear hE a; intro a hE
      refine p_cons (s_still p41_1_4 hE (wn_some g41_1_2 rfl rfl) rfl (st_leq (b := false) rfl rfl (decide_eq_false hP2)) ?_)
      clear hE a; intro a hE
      refine q0 p41_1_5 hE (st_pick rfl rfl) ?_
      clear hE a; intro a hE
      refine q0 p41_1_6 hE (st_assign rfl) ?_
      clear hE a; intro a hE
      refine p_nil ?_
      refine x_norm ?_
      refine wp_ret ?_
      refine ret_one (v := Value.bool false) rfl hE (.tmp rfl .nil) ?_
      exact ⟨by rw [← hb]; unfold timeB; rw [decide_eq_false (by omega)], K_0⟩
  ·
    refine c_reg R41_1_l ?_
    refine q0 p41_1_0 hE (st_move rfl) ?_
    clear hE a; intro a hE
    refine q0 p41_1_1 hE (st_geq (b := false) rfl rfl (decide_eq_false hP1)) ?_
    clear hE a; intro a hE
    refine q0 p41_1_2 hE (st_move rfl) ?_
    clear hE a; intro a hE
    refine p_cons (s_skip p41_1_3 hE (wn_some g41_1_2 rfl rfl) rfl ?_)
    clear hE a; intro a hE
    refine p_cons (s_skip p41_1_4 hE (wn_some g41_1_2 rfl rfl) rfl ?_)
    clear hE a; intro a hE
    refine q0 p41_1_5 hE (st_pick rfl rfl) ?_
    clear hE a; intro a hE
    refine q0 p41_1_6 hE (st_assign rfl) ?_
    clear hE a; intro a hE
    refine p_nil ?_
    refine x_norm ?_
    refine wp_ret ?_
    refine ret_one (v := Value.bool false) rfl hE (.tmp rfl .nil) ?_
    exact ⟨by rw [← hb]; unfold timeB; rw [decide_eq_false (by omega)], K_0⟩
theorem R40_0_l : List.range (regOf Try.f40 0).size = [0] := by kernel_rfl
theorem R40_1_l : List.range (regOf Try.f40 1).size = [0, 1, 2] := by kernel_rfl
theorem R40_2_l : List.range (regOf Try.f40 2).size = [0] := by kernel_rfl
theorem R40_3_l : List.range (regOf Try.f40 3).size = [0, 1, 2] := by kernel_rfl
theorem R40_4_l : List.range (regOf Try.f40 4).size = [0, 1, 2, 3, 4, 5] := by kernel_rfl
theorem R40_5_l : List.range (regOf Try.f40 5).size = [0] := by kernel_rfl
theorem R40_6_l : List.range (regOf Try.f40 6).size = [0, 1] := by kernel_rfl
theorem R40_7_l : List.range (regOf Try.f40 7).size = [0] := by kernel_rfl
theorem body40 : Try.f40.body = some (.seq (.region 0 (regOf Try.f40 0) false) (.seq (.seq (.region 1 (regOf Try.f40 1) false) (.block 0 (.loop (.seq (.region 2 (regOf Try.f40 2) false) (.seq (.cond (Operand.tmp 8) (.skip) (.exit 0)) (.seq (.block 1 (.seq (.region 3 (regOf Try.f40 3) false) (.seq (.region 4 (regOf Try.f40 4) false) (.cond (Operand.tmp 16) (.seq (.region 5 (regOf Try.f40 5) false) (.ret)) (.skip))))) (.region 6 (regOf Try.f40 6) false))))))) (.seq (.region 7 (regOf Try.f40 7) false) (.ret)))) := by kernel_rfl
theorem p40_0_0 : pj (regOf Try.f40 0) 0 = some (some 2, .assign (.const (.bool false)), 4, none) := by kernel_rfl
theorem p40_1_0 : pj (regOf Try.f40 1) 0 = some (some 5, .move (.tmp 0), 35, none) := by kernel_rfl
theorem p40_1_1 : pj (regOf Try.f40 1) 1 = some (some 6, .call { callee := .builtin .len, args := #[.tmp 5], argTypes := #[35] }, 3, none) := by kernel_rfl
theorem p40_1_2 : pj (regOf Try.f40 1) 2 = some (some 7, .move (.const (.int .i64 0)), 3, none) := by kernel_rfl
theorem p40_2_0 : pj (regOf Try.f40 2) 0 = some (some 8, .binOp .lss 3 (.tmp 7) (.tmp 6) 3, 0, none) := by kernel_rfl
theorem p40_3_0 : pj (regOf Try.f40 3) 0 = some (some 9, .indexAddr 35 (.tmp 5) (.tmp 7), 0, none) := by kernel_rfl
theorem tS3 : (Try.prog.info? 3).map (·.size) = some 1 := by kernel_rfl
theorem p40_3_1 : pj (regOf Try.f40 3) 1 = some (some 10, .load 3 (.tmp 9), 3, none) := by kernel_rfl
theorem tA3 : (Try.prog.underlying 3).map aggD = some false := by kernel_rfl
theorem p40_3_2 : pj (regOf Try.f40 3) 2 = some (some 4, .assign (.tmp 10), 3, none) := by kernel_rfl
theorem p40_4_0 : pj (regOf Try.f40 4) 0 = some (some 11, .move (.tmp 4), 3, none) := by kernel_rfl
theorem p40_4_1 : pj (regOf Try.f40 4) 1 = some (some 12, .binOp .lss 3 (.tmp 11) (.const (.int .i64 0)) 3, 4, none) := by kernel_rfl
theorem p40_4_2 : pj (regOf Try.f40 4) 2 = some (some 13, .move (.tmp 12), 4, none) := by kernel_rfl
theorem p40_4_3 : pj (regOf Try.f40 4) 3 = some (some 14, .move (.tmp 4), 3, some (2, false)) := by kernel_rfl
theorem g40_4_2 : dstOf (regOf Try.f40 4) 2 = some 13 := by kernel_rfl
theorem p40_4_4 : pj (regOf Try.f40 4) 4 = some (some 15, .binOp .geq 3 (.tmp 14) (.const (.int .i64 256)) 3, 4, some (2, false)) := by kernel_rfl
theorem p40_4_5 : pj (regOf Try.f40 4) 5 = some (some 16, .pick (.tmp 13) (.const (.bool true)) (.tmp 15), 4, none) := by kernel_rfl
theorem p40_6_0 : pj (regOf Try.f40 6) 0 = some (some 17, .binOp .add 3 (.tmp 7) (.const (.int .i64 1)) 3, 3, none) := by kernel_rfl
theorem p40_6_1 : pj (regOf Try.f40 6) 1 = some (some 7, .move (.tmp 17), 3, none) := by kernel_rfl
theorem p40_7_0 : pj (regOf Try.f40 7) 0 = some (some 2, .assign (.const (.bool true)), 4, none) := by kernel_rfl
theorem p40_5_0 : pj (regOf Try.f40 5) 0 = some (some 2, .assign (.const (.bool false)), 4, none) := by kernel_rfl
set_option maxHeartbeats 4000000 in
theorem valid1 (b : Nat) (x : Int) (r : Bool) (hr : seqB x = r) (w : World) (hb9 : w.heap[b]? = some (.cells #[.int .i64 x] 3 (0, 0))) : Calls Try.prog 40 #[.slice (some ⟨b, 0, none⟩) 1 1] w fun e w' => e = .returned (.bool r) ∧ Kp w w' (fun _ => False) := by
  have K_0 := Kp.refl w (fun _ => False)
  have B_b := hb9
  refine enter (args := [Value.slice (some ⟨b, 0, none⟩) 1 1]) (n := 18) Try.func40 body40 rfl rfl rfl ?_
  intro a hE
  refine c_reg R40_0_l ?_
  refine q0 p40_0_0 hE (st_assign rfl) ?_
  clear hE a; intro a hE
  refine p_nil ?_
  refine x_norm ?_
  refine wp_seq ?_
  refine c_reg R40_1_l ?_
  refine q0 p40_1_0 hE (st_move rfl) ?_
  clear hE a; intro a hE
  refine q0 p40_1_1 hE (st_len Try.underlying35 rfl) ?_
  clear hE a; intro a hE
  refine q0 p40_1_2 hE (st_move rfl) ?_
  clear hE a; intro a hE
  refine p_nil ?_
  refine x_norm ?_
  refine wp_block ?_
  refine wp_loop_rounds 2 ?_
  refine (Eq.mpr (rounds_succ (n := 1)) ?_)
  refine c_reg R40_2_l ?_
  refine q0 p40_2_0 hE (st_lss (b := true) rfl rfl (by decide)) ?_
  clear hE a; intro a hE
  refine p_nil ?_
  refine x_norm ?_
  refine wp_seq ?_
  refine c_cond (t := true) hE rfl ?_
  refine wp_skip ?_
  refine x_norm ?_
  refine wp_seq ?_
  refine wp_block ?_
  refine c_reg R40_3_l ?_
  refine q0 p40_3_0 hE (st_indexAddr (i := 0) Try.underlying35 tS3 rfl rfl (by decide) rfl) ?_
  clear hE a; intro a hE
  refine q0 p40_3_1 hE (st_load1 tA3 rfl ((blk_cell B_b 0).trans rfl)) ?_
  clear hE a; intro a hE
  refine q0 p40_3_2 hE (st_assign rfl) ?_
  clear hE a; intro a hE
  refine p_nil ?_
  refine x_norm ?_
  rcases Decidable.em (0 ≤ x) with hP1 | hP1
  ·
    rcases Decidable.em (x < 256) with hP2 | hP2
    ·
      refine c_reg R40_4_l ?_
      refine q0 p40_4_0 hE (st_move rfl) ?_
      clear hE a; intro a hE
      refine q0 p40_4_1 hE (st_lss (b := false) rfl rfl (decide_eq_false (by omega))) ?_
      clear hE a; intro a hE
      refine q0 p40_4_2 hE (st_move rfl) ?_
      clear hE a; intro a hE
      refine p_cons (s_still p40_4_3 hE (wn_some g40_4_2 rfl rfl) rfl (st_move rfl) ?_)
      clear hE a; intro a hE
      refine p_cons (s_still p40_4_4 hE (wn_some g40_4_2 rfl rfl) rfl (st_geq (b := false) rfl rfl (decide_eq_false (by omega))) ?_)
      clear hE a; intro a hE
      refine q0 p40_4_5 hE (st_pick rfl rfl) ?_
      clear hE a; intro a hE
      refine p_nil ?_
      refine x_norm ?_
      refine c_cond (t := false) hE rfl ?_
      refine wp_skip ?_
      refine x_normB ?_
      refine x_norm ?_
      refine c_regL R40_6_l ?_
      refine q0 p40_6_0 hE (st_add (z := 1) rfl rfl (by decide)) ?_
      clear hE a; intro a hE
      refine q0 p40_6_1 hE (st_move rfl) ?_
      clear hE a; intro a hE
      refine p_nil ?_
      refine x_norm ?_
      refine (Eq.mpr (rounds_succ (n := 0)) ?_)
      refine c_reg R40_2_l ?_
      refine q0 p40_2_0 hE (st_lss (b := false) rfl rfl (by decide)) ?_
      clear hE a; intro a hE
      refine p_nil ?_
      refine x_norm ?_
      refine wp_seq ?_
      refine c_cond (t := false) hE rfl ?_
      refine wp_exit ?_
      refine x_exit ?_
      refine x_exit ?_
      refine x_in ?_
      refine x_norm ?_
      refine c_reg R40_7_l ?_
      refine q0 p40_7_0 hE (st_assign rfl) ?_
      clear hE a; intro a hE
      refine p_nil ?_
      refine x_norm ?_
      refine wp_ret ?_
      refine ret_one (v := Value.bool true) rfl hE (.tmp rfl .nil) ?_
      exact ⟨by rw [← hr]; unfold seqB; rw [decide_eq_true ⟨hP1, hP2⟩], K_0⟩
    ·
      refine c_reg R40_4_l ?_
      refine q0 p40_4_0 hE (st_move rfl) ?_
      clear hE a; intro a hE
      refine q0 p40_4_1 hE (st_lss (b := false) rfl rfl (decide_eq_false (by omega))) ?_
      clear hE a; intro a hE
      refine q0 p40_4_2 hE (st_move rfl) ?_
      clear hE a; intro a hE
      refine p_cons (s_still p40_4_3 hE (wn_some g40_4_2 rfl rfl) rfl (st_move rfl) ?_)
      clear hE a; intro a hE
      refine p_cons (s_still p40_4_4 hE (wn_some g40_4_2 rfl rfl) rfl (st_geq (b := true) rfl rfl (decide_eq_true (by omega))) ?_)
      clear hE a; intro a hE
      refine q0 p40_4_5 hE (st_pick rfl rfl) ?_
      clear hE a; intro a hE
      refine p_nil ?_
      refine x_norm ?_
      refine c_cond (t := true) hE rfl ?_
      refine c_reg R40_5_l ?_
      refine q0 p40_5_0 hE (st_assign rfl) ?_
      clear hE a; intro a hE
      refine p_nil ?_
      refine x_norm ?_
      refine wp_ret ?_
      refine x_retB ?_
      refine x_ret ?_
      refine x_ret ?_
      refine x_retB ?_
      refine x_ret ?_
      refine ret_one (v := Value.bool false) rfl hE (.tmp rfl .nil) ?_
      exact ⟨by rw [← hr]; unfold seqB; rw [decide_eq_false (by omega)], K_0⟩
  ·
    refine c_reg R40_4_l ?_
    refine q0 p40_4_0 hE (st_move rfl) ?_
    clear hE a; intro a hE
    refine q0 p40_4_1 hE (st_lss (b := true) rfl rfl (decide_eq_true (by omega))) ?_
    clear hE a; intro a hE
    refine q0 p40_4_2 hE (st_move rfl) ?_
    clear hE a; intro a hE
    refine p_cons (s_skip p40_4_3 hE (wn_some g40_4_2 rfl rfl) rfl ?_)
    clear hE a; intro a hE
    refine p_cons (s_skip p40_4_4 hE (wn_some g40_4_2 rfl rfl) rfl ?_)
    clear hE a; intro a hE
    refine q0 p40_4_5 hE (st_pick rfl rfl) ?_
    clear hE a; intro a hE
    refine p_nil ?_
    refine x_norm ?_
    refine c_cond (t := true) hE rfl ?_
    refine c_reg R40_5_l ?_
    refine q0 p40_5_0 hE (st_assign rfl) ?_
    clear hE a; intro a hE
    refine p_nil ?_
    refine x_norm ?_
    refine wp_ret ?_
    refine x_retB ?_
    refine x_ret ?_
    refine x_ret ?_
    refine x_retB ?_
    refine x_ret ?_
    refine ret_one (v := Value.bool false) rfl hE (.tmp rfl .nil) ?_
    exact ⟨by rw [← hr]; unfold seqB; rw [decide_eq_false (by omega)], K_0⟩
theorem R22_0_l : List.range (regOf Try.f22 0).size = [0, 1] := by kernel_rfl
theorem R22_1_l : List.range (regOf Try.f22 1).size = [0, 1, 2, 3, 4, 5, 6, 7, 8, 9, 10, 11, 12, 13] := by kernel_rfl
theorem R22_2_l : List.range (regOf Try.f22 2).size = [0, 1] := by kernel_rfl
theorem R22_3_l : List.range (regOf Try.f22 3).size = [0, 1, 2, 3, 4, 5, 6] := by kernel_rfl
theorem body22 : Try.f22.body = some (.seq (.region 0 (regOf Try.f22 0) false) (.seq (.seq (.region 1 (regOf Try.f22 1) false) (.cond (Operand.tmp 19) (.seq (.region 2 (regOf Try.f22 2) false) (.ret)) (.skip))) (.seq (.region 3 (regOf Try.f22 3) false) (.ret)))) := by kernel_rfl
theorem p22_0_0 : pj (regOf Try.f22 0) 0 = some (some 4, .assign (.const (.pointer none)), 56, none) := by kernel_rfl
theorem p22_0_1 : pj (regOf Try.f22 0) 1 = some (some 5, .assign (.const (.int .i64 0)), 30, none) := by kernel_rfl
theorem p22_1_0 : pj (regOf Try.f22 1) 0 = some (some 6, .move (.tmp 0), 3, none) := by kernel_rfl
theorem p22_1_1 : pj (regOf Try.f22 1) 1 = some (some 7, .binOp .lss 3 (.tmp 6) (.const (.int .i64 1)) 3, 4, none) := by kernel_rfl
theorem p22_1_2 : pj (regOf Try.f22 1) 2 = some (some 8, .move (.tmp 7), 4, none) := by kernel_rfl
theorem p22_1_3 : pj (regOf Try.f22 1) 3 = some (some 9, .move (.tmp 0), 3, some (2, false)) := by kernel_rfl
theorem g22_1_2 : dstOf (regOf Try.f22 1) 2 = some 8 := by kernel_rfl
theorem p22_1_4 : pj (regOf Try.f22 1) 4 = some (some 10, .binOp .gtr 3 (.tmp 9) (.const (.int .i64 1048576)) 3, 4, some (2, false)) := by kernel_rfl
theorem p22_1_5 : pj (regOf Try.f22 1) 5 = some (some 11, .pick (.tmp 8) (.const (.bool true)) (.tmp 10), 4, none) := by kernel_rfl
theorem p22_1_6 : pj (regOf Try.f22 1) 6 = some (some 12, .move (.tmp 11), 4, none) := by kernel_rfl
theorem p22_1_7 : pj (regOf Try.f22 1) 7 = some (some 13, .move (.tmp 1), 3, some (6, false)) := by kernel_rfl
theorem g22_1_6 : dstOf (regOf Try.f22 1) 6 = some 12 := by kernel_rfl
theorem p22_1_8 : pj (regOf Try.f22 1) 8 = some (some 14, .binOp .lss 3 (.tmp 13) (.const (.int .i64 1)) 3, 4, some (6, false)) := by kernel_rfl
theorem p22_1_9 : pj (regOf Try.f22 1) 9 = some (some 15, .pick (.tmp 12) (.const (.bool true)) (.tmp 14), 4, none) := by kernel_rfl
theorem p22_1_10 : pj (regOf Try.f22 1) 10 = some (some 16, .move (.tmp 15), 4, none) := by kernel_rfl
theorem p22_1_11 : pj (regOf Try.f22 1) 11 = some (some 17, .move (.tmp 1), 3, some (10, false)) := by kernel_rfl
theorem g22_1_10 : dstOf (regOf Try.f22 1) 10 = some 16 := by kernel_rfl
theorem p22_1_12 : pj (regOf Try.f22 1) 12 = some (some 18, .binOp .gtr 3 (.tmp 17) (.const (.int .i64 16)) 3, 4, some (10, false)) := by kernel_rfl
theorem p22_1_13 : pj (regOf Try.f22 1) 13 = some (some 19, .pick (.tmp 16) (.const (.bool true)) (.tmp 18), 4, none) := by kernel_rfl
theorem p22_3_0 : pj (regOf Try.f22 3) 0 = some (some 20, .move (.tmp 0), 3, none) := by kernel_rfl
theorem p22_3_1 : pj (regOf Try.f22 3) 1 = some (some 21, .move (.tmp 1), 3, none) := by kernel_rfl
theorem p22_3_2 : pj (regOf Try.f22 3) 2 = some (some 22, .makeMap 80 none, 80, none) := by kernel_rfl
theorem p22_3_3 : pj (regOf Try.f22 3) 3 = some (some 23, .build 82 #[(0, .tmp 20), (1, .tmp 21), (2, .tmp 22)], 82, none) := by kernel_rfl
theorem p22_3_4 : pj (regOf Try.f22 3) 4 = some (some 24, .box 82 (.tmp 23), 56, none) := by kernel_rfl
theorem p22_3_5 : pj (regOf Try.f22 3) 5 = some (some 4, .assign (.tmp 24), 56, none) := by kernel_rfl
theorem p22_3_6 : pj (regOf Try.f22 3) 6 = some (some 5, .assign (.const (.int .i64 0)), 30, none) := by kernel_rfl
set_option maxHeartbeats 4000000 in
theorem new_ok (x y : Int) (hok : (1 ≤ x ∧ x ≤ 1048576) ∧ 1 ≤ y ∧ y ≤ 16) (w : World) : Calls Try.prog 22 #[.int .i64 x, .int .i64 y] w fun e w' => ∃ g gm, e = .returned (.tuple #[.pointer (some ⟨g, 0, none⟩), .int .i64 0]) ∧ w.heap.size ≤ g ∧ w.heap.size ≤ gm ∧ g ≠ gm ∧ w'.heap[g]? = some (.cells #[.int .i64 x, .int .i64 y, .map (some gm)] 82 (0, 0)) ∧ w'.heap[gm]? = some (.map #[] 0) ∧ Kp w w' (fun _ => False) := by
  have K_0 := Kp.refl w (fun _ => False)
  refine enter (args := [Value.int .i64 x, Value.int .i64 y]) (n := 25) Try.func22 body22 rfl rfl rfl ?_
  intro a hE
  refine c_reg R22_0_l ?_
  refine q0 p22_0_0 hE (st_assign rfl) ?_
  clear hE a; intro a hE
  refine q0 p22_0_1 hE (st_assign rfl) ?_
  clear hE a; intro a hE
  refine p_nil ?_
  refine x_norm ?_
  refine wp_seq ?_
  refine c_reg R22_1_l ?_
  refine q0 p22_1_0 hE (st_move rfl) ?_
  clear hE a; intro a hE
  refine q0 p22_1_1 hE (st_lss (b := false) rfl rfl (decide_eq_false (by omega))) ?_
  clear hE a; intro a hE
  refine q0 p22_1_2 hE (st_move rfl) ?_
  clear hE a; intro a hE
  refine p_cons (s_still p22_1_3 hE (wn_some g22_1_2 rfl rfl) rfl (st_move rfl) ?_)
  clear hE a; intro a hE
  refine p_cons (s_still p22_1_4 hE (wn_some g22_1_2 rfl rfl) rfl (st_gtr (b := false) rfl rfl (decide_eq_false (by omega))) ?_)
  clear hE a; intro a hE
  refine q0 p22_1_5 hE (st_pick rfl rfl) ?_
  clear hE a; intro a hE
  refine q0 p22_1_6 hE (st_move rfl) ?_
  clear hE a; intro a hE
  refine p_cons (s_still p22_1_7 hE (wn_some g22_1_6 rfl rfl) rfl (st_move rfl) ?_)
  clear hE a; intro a hE
  refine p_cons (s_still p22_1_8 hE (wn_some g22_1_6 rfl rfl) rfl (st_lss (b := false) rfl rfl (decide_eq_false (by omega))) ?_)
  clear hE a; intro a hE
  refine q0 p22_1_9 hE (st_pick rfl rfl) ?_
  clear hE a; intro a hE
  refine q0 p22_1_10 hE (st_move rfl) ?_
  clear hE a; intro a hE
  refine p_cons (s_still p22_1_11 hE (wn_some g22_1_10 rfl rfl) rfl (st_move rfl) ?_)
  clear hE a; intro a hE
  refine p_cons (s_still p22_1_12 hE (wn_some g22_1_10 rfl rfl) rfl (st_gtr (b := false) rfl rfl (decide_eq_false (by omega))) ?_)
  clear hE a; intro a hE
  refine q0 p22_1_13 hE (st_pick rfl rfl) ?_
  clear hE a; intro a hE
  refine p_nil ?_
  refine x_norm ?_
  refine c_cond (t := false) hE rfl ?_
  refine wp_skip ?_
  refine x_norm ?_
  refine c_reg R22_3_l ?_
  refine q0 p22_3_0 hE (st_move rfl) ?_
  clear hE a; intro a hE
  refine q0 p22_3_1 hE (st_move rfl) ?_
  clear hE a; intro a hE
  refine p_cons (Mi.s_makeMap p22_3_2 hE wn_none rfl ?_)
  clear hE a; intro g1 w2 z3 B_g1 hk a hE
  have z_0_g1 := Nat.le_trans K_0.kept.1 z3
  replace K_0 := K_0.then_ hk (fun _ h => h.elim)
  clear hk
  refine q0 p22_3_3 hE (st_build (xs := [(0, Operand.tmp 20), (1, Operand.tmp 21), (2, Operand.tmp 22)]) (vs := [(0, Value.int .i64 x), (1, Value.int .i64 y), (2, Value.map (some g1))]) (cs := #[Value.int .i64 x, Value.int .i64 y, Value.map (some g1)]) rfl (by kernel_rfl)) ?_
  clear hE a; intro a hE
  refine p_cons (s_box p22_3_4 hE wn_none rfl rfl ?_)
  clear hE a; intro g4 w5 z6 B_g4 hk a hE
  replace B_g4 : w5.heap[g4]? = some (.cells #[Value.int .i64 x, Value.int .i64 y, Value.map (some g1)] 82 (0, 0)) := B_g4
  have n_g1_g4 : g1 ≠ g4 := ne_new B_g1 z6
  have z_0_g4 := Nat.le_trans K_0.kept.1 z6
  replace B_g1 := kp_blk B_g1 hk (fun h => h)
  replace K_0 := K_0.then_ hk (fun _ h => h.elim)
  clear hk
  refine q0 p22_3_5 hE (st_assign rfl) ?_
  clear hE a; intro a hE
  refine q0 p22_3_6 hE (st_assign rfl) ?_
  clear hE a; intro a hE
  refine p_nil ?_
  refine x_norm ?_
  refine wp_ret ?_
  refine ret_list (rs := [.tmp 4, .tmp 5]) (vs := [Value.pointer (some ⟨g4, 0, none⟩), Value.int .i64 0]) rfl hE (.tmp rfl (.tmp rfl .nil)) rfl ?_
  exact ⟨g4, g1, rfl, z_0_g4, z_0_g1, (Ne.symm n_g1_g4), B_g4, B_g1, K_0⟩
theorem wf64 {x : Int} (h1 : -9223372036854775808 ≤ x) (h2 : x ≤ 9223372036854775807) : (Lit.int .i64 x).wf = true := by
  simp [Lit.wf, IntKind.min, IntKind.max, IntKind.signed, IntKind.bits]
  omega
theorem R23_0_l : List.range (regOf Try.f23 0).size = [0] := by kernel_rfl
theorem R23_1_l : List.range (regOf Try.f23 1).size = [0, 1, 2] := by kernel_rfl
theorem R23_2_l : List.range (regOf Try.f23 2).size = [0] := by kernel_rfl
theorem R23_3_l : List.range (regOf Try.f23 3).size = [0, 1, 2, 3, 4, 5, 6, 7, 8, 9] := by kernel_rfl
theorem R23_4_l : List.range (regOf Try.f23 4).size = [0] := by kernel_rfl
theorem R23_5_l : List.range (regOf Try.f23 5).size = [0, 1, 2, 3, 4, 5, 6, 7, 8, 9, 10, 11, 12] := by kernel_rfl
theorem R23_6_l : List.range (regOf Try.f23 6).size = [0] := by kernel_rfl
theorem body23 : Try.f23.body = some (.seq (.region 0 (regOf Try.f23 0) false) (.seq (.block 0 (.seq (.region 1 (regOf Try.f23 1) false) (.cond (Operand.tmp 7) (.seq (.region 2 (regOf Try.f23 2) false) (.ret)) (.seq (.region 3 (regOf Try.f23 3) false) (.cond (Operand.tmp 10) (.seq (.region 4 (regOf Try.f23 4) false) (.ret)) (.skip)))))) (.seq (.region 5 (regOf Try.f23 5) true) (.seq (.region 6 (regOf Try.f23 6) false) (.ret))))) := by kernel_rfl
theorem p23_0_0 : pj (regOf Try.f23 0) 0 = some (some 6, .assign (.const (.int .i64 0)), 30, none) := by kernel_rfl
theorem p23_1_0 : pj (regOf Try.f23 1) 0 = some (some 8, .move (.tmp 0), 56, none) := by kernel_rfl
theorem p23_1_1 : pj (regOf Try.f23 1) 1 = some (some 9, .binOp .eql 56 (.tmp 8) (.const (.pointer none)) 56, 4, none) := by kernel_rfl
theorem tP56 : Try.prog.underlying 56 = some (.pointer (Try.prog.pointee 56)) := by kernel_rfl
theorem p23_1_2 : pj (regOf Try.f23 1) 2 = some (some 7, .assign (.tmp 9), 4, none) := by kernel_rfl
theorem p23_3_0 : pj (regOf Try.f23 3) 0 = some (some 11, .move (.tmp 1), 3, none) := by kernel_rfl
theorem p23_3_1 : pj (regOf Try.f23 3) 1 = some (some 12, .buildSlice 35 1 #[(0, .tmp 11)], 35, none) := by kernel_rfl
theorem p23_3_2 : pj (regOf Try.f23 3) 2 = some (some 13, .call { callee := .value (.func 40), args := #[.tmp 12], argTypes := #[35] }, 4, none) := by kernel_rfl
theorem cl40 : callable Try.f40 = true := by kernel_rfl
theorem p23_3_3 : pj (regOf Try.f23 3) 3 = some (some 14, .unOp .not 4 (.tmp 13), 4, none) := by kernel_rfl
theorem p23_3_4 : pj (regOf Try.f23 3) 4 = some (some 15, .move (.tmp 14), 4, none) := by kernel_rfl
theorem p23_3_5 : pj (regOf Try.f23 3) 5 = some (some 16, .move (.tmp 2), 3, some (4, false)) := by kernel_rfl
theorem g23_3_4 : dstOf (regOf Try.f23 3) 4 = some 15 := by kernel_rfl
theorem p23_3_6 : pj (regOf Try.f23 3) 6 = some (some 17, .call { callee := .value (.func 41), args := #[.tmp 16], argTypes := #[3] }, 4, some (4, false)) := by kernel_rfl
theorem cl41 : callable Try.f41 = true := by kernel_rfl
theorem p23_3_7 : pj (regOf Try.f23 3) 7 = some (some 18, .unOp .not 4 (.tmp 17), 4, some (4, false)) := by kernel_rfl
theorem p23_3_8 : pj (regOf Try.f23 3) 8 = some (some 19, .pick (.tmp 15) (.const (.bool true)) (.tmp 18), 4, none) := by kernel_rfl
theorem p23_3_9 : pj (regOf Try.f23 3) 9 = some (some 10, .assign (.tmp 19), 4, none) := by kernel_rfl
theorem ns23_5 : Region.noSelect (regOf Try.f23 5) = true := by kernel_rfl
theorem p23_5_0 : pj (regOf Try.f23 5) 0 = some (some 20, .move (.tmp 0), 56, none) := by kernel_rfl
theorem p23_5_1 : pj (regOf Try.f23 5) 1 = some (some 21, .nilCheck (.tmp 20), 0, none) := by kernel_rfl
theorem p23_5_2 : pj (regOf Try.f23 5) 2 = some (some 22, .fieldAddr 82 (.tmp 21) 2, 0, none) := by kernel_rfl
theorem tS80 : (Try.prog.info? 80).map (·.size) = some 1 := by kernel_rfl
theorem p23_5_3 : pj (regOf Try.f23 5) 3 = some (some 23, .load 80 (.tmp 22), 80, none) := by kernel_rfl
theorem tA80 : (Try.prog.underlying 80).map aggD = some false := by kernel_rfl
theorem p23_5_4 : pj (regOf Try.f23 5) 4 = some (some 24, .move (.tmp 1), 3, none) := by kernel_rfl
theorem p23_5_5 : pj (regOf Try.f23 5) 5 = some (some 25, .move (.tmp 2), 3, none) := by kernel_rfl
theorem p23_5_6 : pj (regOf Try.f23 5) 6 = some (some 26, .move (.tmp 0), 56, none) := by kernel_rfl
theorem p23_5_7 : pj (regOf Try.f23 5) 7 = some (some 27, .nilCheck (.tmp 26), 0, none) := by kernel_rfl
theorem p23_5_8 : pj (regOf Try.f23 5) 8 = some (some 28, .fieldAddr 82 (.tmp 27) 0, 0, none) := by kernel_rfl
theorem p23_5_9 : pj (regOf Try.f23 5) 9 = some (some 29, .load 3 (.tmp 28), 3, none) := by kernel_rfl
theorem p23_5_10 : pj (regOf Try.f23 5) 10 = some (some 30, .binOp .add 3 (.tmp 25) (.tmp 29) 3, 3, none) := by kernel_rfl
theorem p23_5_11 : pj (regOf Try.f23 5) 11 = some (some 31, .build 85 #[(0, .tmp 30), (1, .const (.int .i64 1))], 85, none) := by kernel_rfl
theorem p23_5_12 : pj (regOf Try.f23 5) 12 = some (none, .mapUpdate 80 (.tmp 23) (.tmp 24) (.tmp 31), 0, none) := by kernel_rfl
theorem p23_6_0 : pj (regOf Try.f23 6) 0 = some (some 6, .assign (.const (.int .i64 0)), 30, none) := by kernel_rfl
theorem p23_4_0 : pj (regOf Try.f23 4) 0 = some (some 6, .assign (.const (.int .i64 1)), 30, none) := by kernel_rfl
set_option maxHeartbeats 4000000 in
theorem send_any (g gm ck : Nat) (es : Array MapEntry) (l : List (Int × (Int × Int))) (wt tr : Int) (s now : Int) (w : World) (hw : 0 ≤ wt ∧ wt ≤ 1048576) (hg : w.heap[g]? = some (.cells #[.int .i64 wt, .int .i64 tr, .map (some gm)] 82 (0, 0))) (hm : w.heap[gm]? = some (.map es ck)) (hF : MapI encO es ck l) (hne : g ≠ gm) : Calls Try.prog 23 #[.pointer (some ⟨g, 0, none⟩), .int .i64 s, .int .i64 now] w fun e w' => ∃ es' ck', e = .returned (.int .i64 (bif okS s now then 0 else 1)) ∧ MapI encO es' ck' (sendL l wt s now) ∧ w'.heap[gm]? = some (.map es' ck') ∧ Kp w w' (fun k => k = gm) := by
  have K_0 := Kp.refl w (fun k => k = gm)
  have B_g := hg
  have B_gm := hm
  have n_g_gm := hne
  refine enter (args := [Value.pointer (some ⟨g, 0, none⟩), Value.int .i64 s, Value.int .i64 now]) (n := 32) Try.func23 body23 rfl rfl rfl ?_
  intro a hE
  refine c_reg R23_0_l ?_
  refine q0 p23_0_0 hE (st_assign rfl) ?_
  clear hE a; intro a hE
  refine p_nil ?_
  refine x_norm ?_
  refine wp_seq ?_
  refine wp_block ?_
  refine c_reg R23_1_l ?_
  refine q0 p23_1_0 hE (st_move rfl) ?_
  clear hE a; intro a hE
  refine q0 p23_1_1 hE (st_eqlP (b := false) tP56 rfl rfl rfl) ?_
  clear hE a; intro a hE
  refine q0 p23_1_2 hE (st_assign rfl) ?_
  clear hE a; intro a hE
  refine p_nil ?_
  refine x_norm ?_
  refine c_cond (t := false) hE rfl ?_
  rcases Decidable.em (seqB s = true) with hV | hV
  ·
    rcases Decidable.em (timeB now = true) with hTM | hTM
    ·
      have hsb : 0 ≤ s ∧ s < 256 := of_decide_eq_true hV
      have htb : 0 ≤ now ∧ now ≤ 1152921504606846976 := of_decide_eq_true hTM
      refine c_reg R23_3_l ?_
      refine q0 p23_3_0 hE (st_move rfl) ?_
      clear hE a; intro a hE
      refine p_cons (s_row (xs := [(0, Operand.tmp 11)]) (vs := [(0, Value.int .i64 s)]) (cs := #[Value.int .i64 s]) p23_3_1 hE wn_none rfl Try.underlying35 rfl (by kernel_rfl) ?_)
      clear hE a; intro g1 w2 z3 B_g1 hk a hE
      have n_g_g1 : g ≠ g1 := ne_new B_g z3
      have n_gm_g1 : gm ≠ g1 := ne_new B_gm z3
      have z_0_g1 := Nat.le_trans K_0.kept.1 z3
      replace B_g := kp_blk B_g hk (fun h => h)
      replace B_gm := kp_blk B_gm hk (fun h => h)
      replace K_0 := K_0.then_ hk (fun _ h => h.elim)
      clear hk
      refine p_cons (s_call (xs := [Operand.tmp 12]) (args := [Value.slice (some ⟨g1, 0, none⟩) 1 1]) p23_3_2 hE wn_none rfl rfl Try.func40 cl40 (valid1 g1 s true hV _ B_g1) ?_)
      rintro e w4 ⟨rfl, hk⟩
      replace B_g := kp_blk B_g hk (fun h => h)
      replace B_gm := kp_blk B_gm hk (fun h => h)
      replace B_g1 := kp_blk B_g1 hk (fun h => h)
      replace K_0 := K_0.then_ hk (fun _ h => h.elim)
      refine ⟨_, rfl, ?_⟩
      clear hE a; intro a hE
      refine q0 p23_3_3 hE (st_not rfl rfl) ?_
      clear hE a; intro a hE
      refine q0 p23_3_4 hE (st_move rfl) ?_
      clear hE a; intro a hE
      refine p_cons (s_still p23_3_5 hE (wn_some g23_3_4 rfl rfl) rfl (st_move rfl) ?_)
      clear hE a; intro a hE
      refine p_cons (s_call (xs := [Operand.tmp 16]) (args := [Value.int .i64 now]) p23_3_6 hE (wn_some g23_3_4 rfl rfl) rfl rfl Try.func41 cl41 (time_any now true hTM _) ?_)
      rintro e w5 ⟨rfl, hk⟩
      replace B_g := kp_blk B_g hk (fun h => h)
      replace B_gm := kp_blk B_gm hk (fun h => h)
      replace B_g1 := kp_blk B_g1 hk (fun h => h)
      replace K_0 := K_0.then_ hk (fun _ h => h.elim)
      refine ⟨_, rfl, ?_⟩
      clear hE a; intro a hE
      refine p_cons (s_still p23_3_7 hE (wn_some g23_3_4 rfl rfl) rfl (st_not rfl rfl) ?_)
      clear hE a; intro a hE
      refine q0 p23_3_8 hE (st_pick rfl rfl) ?_
      clear hE a; intro a hE
      refine q0 p23_3_9 hE (st_assign rfl) ?_
      clear hE a; intro a hE
      refine p_nil ?_
      refine x_norm ?_
      refine c_cond (t := false) hE rfl ?_
      refine wp_skip ?_
      refine x_normB ?_
      refine x_norm ?_
      refine c_drawS (S := fun W => W.heap[g]? = some (.cells #[Value.int .i64 wt, Value.int .i64 tr, Value.map (some gm)] 82 (0, 0)) ∧ True) rfl rfl (listed := #[false, false, false, false, false, false, false, false, false, false, false, false, false]) rfl ?_
      intro w6 hh hk
      replace B_g := kp_blk B_g hk (fun h => h)
      replace B_gm := kp_blk B_gm hk (fun h => h)
      replace B_g1 := kp_blk B_g1 hk (fun h => h)
      replace K_0 := K_0.then_ hk (fun _ h => h.elim)
      clear hh hk
      refine d_take (v := Value.pointer (some ⟨g, 0, none⟩)) p23_5_0 ns23_5 (by kernel_rfl) (by kernel_rfl) (fun _ _ _ h => h) hE wn_none rfl ⟨B_g, trivial⟩ (fun W hS => (st_move rfl)) rfl ?_
      clear hE a; intro a hE
      refine d_take (v := Value.pointer (some ⟨g, 0, none⟩)) p23_5_1 ns23_5 (by kernel_rfl) (by kernel_rfl) (fun _ _ _ h => h) hE wn_none rfl ⟨B_g, trivial⟩ (fun W hS => (st_nil rfl)) rfl ?_
      clear hE a; intro a hE
      refine d_take (v := Value.pointer (some ⟨g, 2, none⟩)) p23_5_2 ns23_5 (by kernel_rfl) (by kernel_rfl) (fun _ _ _ h => h) hE wn_none rfl ⟨B_g, trivial⟩ (fun W hS => (st_fieldAddr Try.underlying82 rfl tS80 rfl rfl)) rfl ?_
      clear hE a; intro a hE
      refine d_take (v := Value.map (some gm)) p23_5_3 ns23_5 (by kernel_rfl) (by kernel_rfl) (fun _ _ _ h => h) hE wn_none rfl ⟨B_g, trivial⟩ (fun W hS => (st_load1 tA80 rfl ((blk_cell hS.1 2).trans rfl))) rfl ?_
      clear hE a; intro a hE
      refine d_take (v := Value.int .i64 s) p23_5_4 ns23_5 (by kernel_rfl) (by kernel_rfl) (fun _ _ _ h => h) hE wn_none rfl ⟨B_g, trivial⟩ (fun W hS => (st_move rfl)) rfl ?_
      clear hE a; intro a hE
      refine d_take (v := Value.int .i64 now) p23_5_5 ns23_5 (by kernel_rfl) (by kernel_rfl) (fun _ _ _ h => h) hE wn_none rfl ⟨B_g, trivial⟩ (fun W hS => (st_move rfl)) rfl ?_
      clear hE a; intro a hE
      refine d_take (v := Value.pointer (some ⟨g, 0, none⟩)) p23_5_6 ns23_5 (by kernel_rfl) (by kernel_rfl) (fun _ _ _ h => h) hE wn_none rfl ⟨B_g, trivial⟩ (fun W hS => (st_move rfl)) rfl ?_
      clear hE a; intro a hE
      refine d_take (v := Value.pointer (some ⟨g, 0, none⟩)) p23_5_7 ns23_5 (by kernel_rfl) (by kernel_rfl) (fun _ _ _ h => h) hE wn_none rfl ⟨B_g, trivial⟩ (fun W hS => (st_nil rfl)) rfl ?_
      clear hE a; intro a hE
      refine d_take (v := Value.pointer (some ⟨g, 0, none⟩)) p23_5_8 ns23_5 (by kernel_rfl) (by kernel_rfl) (fun _ _ _ h => h) hE wn_none rfl ⟨B_g, trivial⟩ (fun W hS => (st_fieldAddr Try.underlying82 rfl tS3 rfl rfl)) rfl ?_
      clear hE a; intro a hE
      refine d_take (v := Value.int .i64 wt) p23_5_9 ns23_5 (by kernel_rfl) (by kernel_rfl) (fun _ _ _ h => h) hE wn_none rfl ⟨B_g, trivial⟩ (fun W hS => (st_load1 tA3 rfl ((blk_cell hS.1 0).trans rfl))) rfl ?_
      clear hE a; intro a hE
      refine d_take (v := Value.int .i64 (now + wt)) p23_5_10 ns23_5 (by kernel_rfl) (by kernel_rfl) (fun _ _ _ h => h) hE wn_none rfl ⟨B_g, trivial⟩ (fun W hS => (st_add (z := now + wt) rfl rfl (wr_i64 _ (by omega) (by omega)))) rfl ?_
      clear hE a; intro a hE
      refine d_take (v := Value.agg #[Value.int .i64 (now + wt), Value.int .i64 1]) p23_5_11 ns23_5 (by kernel_rfl) (by kernel_rfl) (fun _ _ _ h => h) hE wn_none rfl ⟨B_g, trivial⟩ (fun W hS => (st_build (xs := [(0, Operand.tmp 30), (1, Operand.const (Value.int IntKind.i64 1))]) (vs := [(0, Value.int .i64 (now + wt)), (1, Value.int .i64 1)]) (cs := #[Value.int .i64 (now + wt), Value.int .i64 1]) rfl (by kernel_rfl))) rfl ?_
      clear hE a; intro a hE
      refine d_one (by kernel_rfl) rfl (Mi.s_putI (u := (now + wt, 1)) p23_5_12 hE wn_none Try.underlying80 Try.underlying3 rfl rfl rfl rfl (wf64 (by omega) (by omega)) hF B_gm ?_)
      intro esm8 ckm8 w7 MF_m8 B_gm' hk
      replace B_g := kp_blk B_g hk n_g_gm
      replace B_g1 := kp_blk B_g1 hk (Ne.symm n_gm_g1)
      replace K_0 := K_0.then_ hk (fun k h => by rw [show k = gm from h]; exact Or.inl rfl)
      replace B_gm := B_gm'
      clear hk
      refine ⟨⟨B_g, trivial⟩, ?_⟩
      refine d_end (by kernel_rfl) ?_
      refine x_norm ?_
      refine c_reg R23_6_l ?_
      refine q0 p23_6_0 hE (st_assign rfl) ?_
      clear hE a; intro a hE
      refine p_nil ?_
      refine x_norm ?_
      refine wp_ret ?_
      refine ret_one (v := Value.int .i64 0) rfl hE (.tmp rfl .nil) ?_
      have hst : okS s now = true := by unfold okS; rw [hV, hTM]; rfl
      exact ⟨esm8, ckm8, by rw [hst]; rfl, by unfold sendL; rw [hst]; exact MF_m8, B_gm, K_0⟩
    ·
      refine c_reg R23_3_l ?_
      refine q0 p23_3_0 hE (st_move rfl) ?_
      clear hE a; intro a hE
      refine p_cons (s_row (xs := [(0, Operand.tmp 11)]) (vs := [(0, Value.int .i64 s)]) (cs := #[Value.int .i64 s]) p23_3_1 hE wn_none rfl Try.underlying35 rfl (by kernel_rfl) ?_)
      clear hE a; intro g9 w10 z11 B_g9 hk a hE
      have n_g_g9 : g ≠ g9 := ne_new B_g z11
      have n_gm_g9 : gm ≠ g9 := ne_new B_gm z11
      have z_0_g9 := Nat.le_trans K_0.kept.1 z11
      replace B_g := kp_blk B_g hk (fun h => h)
      replace B_gm := kp_blk B_gm hk (fun h => h)
      replace K_0 := K_0.then_ hk (fun _ h => h.elim)
      clear hk
      refine p_cons (s_call (xs := [Operand.tmp 12]) (args := [Value.slice (some ⟨g9, 0, none⟩) 1 1]) p23_3_2 hE wn_none rfl rfl Try.func40 cl40 (valid1 g9 s true hV _ B_g9) ?_)
      rintro e w12 ⟨rfl, hk⟩
      replace B_g := kp_blk B_g hk (fun h => h)
      replace B_gm := kp_blk B_gm hk (fun h => h)
      replace B_g9 := kp_blk B_g9 hk (fun h => h)
      replace K_0 := K_0.then_ hk (fun _ h => h.elim)
      refine ⟨_, rfl, ?_⟩
      clear hE a; intro a hE
      refine q0 p23_3_3 hE (st_not rfl rfl) ?_
      clear hE a; intro a hE
      refine q0 p23_3_4 hE (st_move rfl) ?_
      clear hE a; intro a hE
      refine p_cons (s_still p23_3_5 hE (wn_some g23_3_4 rfl rfl) rfl (st_move rfl) ?_)
      clear hE a; intro a hE
      refine p_cons (s_call (xs := [Operand.tmp 16]) (args := [Value.int .i64 now]) p23_3_6 hE (wn_some g23_3_4 rfl rfl) rfl rfl Try.func41 cl41 (time_any now false (by simpa using hTM) _) ?_)
      rintro e w13 ⟨rfl, hk⟩
      replace B_g := kp_blk B_g hk (fun h => h)
      replace B_gm := kp_blk B_gm hk (fun h => h)
      replace B_g9 := kp_blk B_g9 hk (fun h => h)
      replace K_0 := K_0.then_ hk (fun _ h => h.elim)
      refine ⟨_, rfl, ?_⟩
      clear hE a; intro a hE
      refine p_cons (s_still p23_3_7 hE (wn_some g23_3_4 rfl rfl) rfl (st_not rfl rfl) ?_)
      clear hE a; intro a hE
      refine q0 p23_3_8 hE (st_pick rfl rfl) ?_
      clear hE a; intro a hE
      refine q0 p23_3_9 hE (st_assign rfl) ?_
      clear hE a; intro a hE
      refine p_nil ?_
      refine x_norm ?_
      refine c_cond (t := true) hE rfl ?_
      refine c_reg R23_4_l ?_
      refine q0 p23_4_0 hE (st_assign rfl) ?_
      clear hE a; intro a hE
      refine p_nil ?_
      refine x_norm ?_
      refine wp_ret ?_
      refine x_retB ?_
      refine x_ret ?_
      refine ret_one (v := Value.int .i64 1) rfl hE (.tmp rfl .nil) ?_
      have hst : okS s now = false := by unfold okS; rw [hV, show timeB now = false by simpa using hTM]; rfl
      exact ⟨es, ck, by rw [hst]; rfl, by unfold sendL; rw [hst]; exact hF, B_gm, K_0⟩
  ·
    refine c_reg R23_3_l ?_
    refine q0 p23_3_0 hE (st_move rfl) ?_
    clear hE a; intro a hE
    refine p_cons (s_row (xs := [(0, Operand.tmp 11)]) (vs := [(0, Value.int .i64 s)]) (cs := #[Value.int .i64 s]) p23_3_1 hE wn_none rfl Try.underlying35 rfl (by kernel_rfl) ?_)
    clear hE a; intro g14 w15 z16 B_g14 hk a hE
    have n_g_g14 : g ≠ g14 := ne_new B_g z16
    have n_gm_g14 : gm ≠ g14 := ne_new B_gm z16
    have z_0_g14 := Nat.le_trans K_0.kept.1 z16
    replace B_g := kp_blk B_g hk (fun h => h)
    replace B_gm := kp_blk B_gm hk (fun h => h)
    replace K_0 := K_0.then_ hk (fun _ h => h.elim)
    clear hk
    refine p_cons (s_call (xs := [Operand.tmp 12]) (args := [Value.slice (some ⟨g14, 0, none⟩) 1 1]) p23_3_2 hE wn_none rfl rfl Try.func40 cl40 (valid1 g14 s false (by simpa using hV) _ B_g14) ?_)
    rintro e w17 ⟨rfl, hk⟩
    replace B_g := kp_blk B_g hk (fun h => h)
    replace B_gm := kp_blk B_gm hk (fun h => h)
    replace B_g14 := kp_blk B_g14 hk (fun h => h)
    replace K_0 := K_0.then_ hk (fun _ h => h.elim)
    refine ⟨_, rfl, ?_⟩
    clear hE a; intro a hE
    refine q0 p23_3_3 hE (st_not rfl rfl) ?_
    clear hE a; intro a hE
    refine q0 p23_3_4 hE (st_move rfl) ?_
    clear hE a; intro a hE
    refine p_cons (s_skip p23_3_5 hE (wn_some g23_3_4 rfl rfl) rfl ?_)
    clear hE a; intro a hE
    refine p_cons (s_skip p23_3_6 hE (wn_some g23_3_4 rfl rfl) rfl ?_)
    clear hE a; intro a hE
    refine p_cons (s_skip p23_3_7 hE (wn_some g23_3_4 rfl rfl) rfl ?_)
    clear hE a; intro a hE
    refine q0 p23_3_8 hE (st_pick rfl rfl) ?_
    clear hE a; intro a hE
    refine q0 p23_3_9 hE (st_assign rfl) ?_
    clear hE a; intro a hE
    refine p_nil ?_
    refine x_norm ?_
    refine c_cond (t := true) hE rfl ?_
    refine c_reg R23_4_l ?_
    refine q0 p23_4_0 hE (st_assign rfl) ?_
    clear hE a; intro a hE
    refine p_nil ?_
    refine x_norm ?_
    refine wp_ret ?_
    refine x_retB ?_
    refine x_ret ?_
    refine ret_one (v := Value.int .i64 1) rfl hE (.tmp rfl .nil) ?_
    have hst : okS s now = false := by unfold okS; rw [show seqB s = false by simpa using hV]; rfl
    exact ⟨es, ck, by rw [hst]; rfl, by unfold sendL; rw [hst]; exact hF, B_gm, K_0⟩
theorem R27_0_l : List.range (regOf Try.f27 0).size = [0] := by kernel_rfl
theorem R27_1_l : List.range (regOf Try.f27 1).size = [0, 1] := by kernel_rfl
theorem R27_2_l : List.range (regOf Try.f27 2).size = [0] := by kernel_rfl
theorem R27_3_l : List.range (regOf Try.f27 3).size = [0, 1, 2, 3, 4, 5, 6, 7, 8, 9, 10, 11] := by kernel_rfl
theorem R27_4_l : List.range (regOf Try.f27 4).size = [0, 1, 2, 3, 4, 5] := by kernel_rfl
theorem R27_5_l : List.range (regOf Try.f27 5).size = [0, 1] := by kernel_rfl
theorem body27 : Try.f27.body = some (.seq (.region 0 (regOf Try.f27 0) false) (.seq (.seq (.region 1 (regOf Try.f27 1) false) (.cond (Operand.tmp 8) (.seq (.region 2 (regOf Try.f27 2) false) (.ret)) (.skip))) (.seq (.region 3 (regOf Try.f27 3) false) (.seq (.region 4 (regOf Try.f27 4) false) (.seq (.region 5 (regOf Try.f27 5) false) (.ret)))))) := by kernel_rfl
theorem p27_0_0 : pj (regOf Try.f27 0) 0 = some (some 4, .assign (.const (.bool false)), 4, none) := by kernel_rfl
theorem p27_1_0 : pj (regOf Try.f27 1) 0 = some (some 7, .move (.tmp 0), 56, none) := by kernel_rfl
theorem p27_1_1 : pj (regOf Try.f27 1) 1 = some (some 8, .binOp .eql 56 (.tmp 7) (.const (.pointer none)) 56, 4, none) := by kernel_rfl
theorem p27_3_0 : pj (regOf Try.f27 3) 0 = some (some 10, .move (.tmp 0), 56, none) := by kernel_rfl
theorem p27_3_1 : pj (regOf Try.f27 3) 1 = some (some 11, .nilCheck (.tmp 10), 0, none) := by kernel_rfl
theorem p27_3_2 : pj (regOf Try.f27 3) 2 = some (some 12, .fieldAddr 82 (.tmp 11) 2, 0, none) := by kernel_rfl
theorem p27_3_3 : pj (regOf Try.f27 3) 3 = some (some 13, .load 80 (.tmp 12), 80, none) := by kernel_rfl
theorem p27_3_4 : pj (regOf Try.f27 3) 4 = some (some 14, .move (.tmp 1), 3, none) := by kernel_rfl
theorem p27_3_5 : pj (regOf Try.f27 3) 5 = some (some 15, .lookup 80 (.tmp 13) (.tmp 14) true, 90, none) := by kernel_rfl
theorem tZ85 : (Try.prog.info? 85).bind (·.zero) = some (Value.agg #[Value.int .i64 0, Value.int .i64 0]) := by kernel_rfl
theorem p27_3_6 : pj (regOf Try.f27 3) 6 = some (some 9, .move (.tmp 15), 90, none) := by kernel_rfl
theorem p27_3_7 : pj (regOf Try.f27 3) 7 = some (some 16, .extract (.tmp 9) 0, 85, none) := by kernel_rfl
theorem p27_3_8 : pj (regOf Try.f27 3) 8 = some (some 17, .extract (.tmp 9) 1, 4, none) := by kernel_rfl
theorem p27_3_9 : pj (regOf Try.f27 3) 9 = some (some 5, .alloc 85, 0, none) := by kernel_rfl
theorem p27_3_10 : pj (regOf Try.f27 3) 10 = some (none, .store 85 (.tmp 5) (.tmp 16), 0, none) := by kernel_rfl
theorem tS85 : (Try.prog.info? 85).map (·.size) = some 2 := by kernel_rfl
theorem p27_3_11 : pj (regOf Try.f27 3) 11 = some (some 6, .assign (.tmp 17), 4, none) := by kernel_rfl
theorem p27_4_0 : pj (regOf Try.f27 4) 0 = some (some 18, .move (.tmp 0), 56, none) := by kernel_rfl
theorem p27_4_1 : pj (regOf Try.f27 4) 1 = some (some 19, .nilCheck (.tmp 18), 0, none) := by kernel_rfl
theorem p27_4_2 : pj (regOf Try.f27 4) 2 = some (some 20, .fieldAddr 82 (.tmp 19) 2, 0, none) := by kernel_rfl
theorem p27_4_3 : pj (regOf Try.f27 4) 3 = some (some 21, .load 80 (.tmp 20), 80, none) := by kernel_rfl
theorem p27_4_4 : pj (regOf Try.f27 4) 4 = some (some 22, .move (.tmp 1), 3, none) := by kernel_rfl
theorem p27_4_5 : pj (regOf Try.f27 4) 5 = some (none, .call { callee := .builtin .delete, args := #[.tmp 21, .tmp 22], argTypes := #[80, 3] }, 0, none) := by kernel_rfl
theorem p27_5_0 : pj (regOf Try.f27 5) 0 = some (some 23, .move (.tmp 6), 4, none) := by kernel_rfl
theorem p27_5_1 : pj (regOf Try.f27 5) 1 = some (some 4, .assign (.tmp 23), 4, none) := by kernel_rfl
set_option maxHeartbeats 4000000 in
theorem ack_any (g gm ck : Nat) (es : Array MapEntry) (l : List (Int × (Int × Int))) (wt tr : Int) (s : Int) (w : World) (hg : w.heap[g]? = some (.cells #[.int .i64 wt, .int .i64 tr, .map (some gm)] 82 (0, 0))) (hm : w.heap[gm]? = some (.map es ck)) (hF : MapI encO es ck l) (hne : g ≠ gm) : Calls Try.prog 27 #[.pointer (some ⟨g, 0, none⟩), .int .i64 s] w fun e w' => ∃ es' ck', e = .returned (.bool (getI l s).isSome) ∧ MapI encO es' ck' (delI l s) ∧ w'.heap[gm]? = some (.map es' ck') ∧ Kp w w' (fun k => k = gm) := by
  have K_0 := Kp.refl w (fun k => k = gm)
  have B_g := hg
  have B_gm := hm
  have n_g_gm := hne
  refine enter (args := [Value.pointer (some ⟨g, 0, none⟩), Value.int .i64 s]) (n := 24) Try.func27 body27 rfl rfl rfl ?_
  intro a hE
  refine c_reg R27_0_l ?_
  refine q0 p27_0_0 hE (st_assign rfl) ?_
  clear hE a; intro a hE
  refine p_nil ?_
  refine x_norm ?_
  refine wp_seq ?_
  refine c_reg R27_1_l ?_
  refine q0 p27_1_0 hE (st_move rfl) ?_
  clear hE a; intro a hE
  refine q0 p27_1_1 hE (st_eqlP (b := false) tP56 rfl rfl rfl) ?_
  clear hE a; intro a hE
  refine p_nil ?_
  refine x_norm ?_
  refine c_cond (t := false) hE rfl ?_
  refine wp_skip ?_
  refine x_norm ?_
  rcases Decidable.em ((getI l s).isSome = true) with hHAS | hHAS
  ·
    refine c_reg R27_3_l ?_
    refine q0 p27_3_0 hE (st_move rfl) ?_
    clear hE a; intro a hE
    refine q0 p27_3_1 hE (st_nil rfl) ?_
    clear hE a; intro a hE
    refine q0 p27_3_2 hE (st_fieldAddr Try.underlying82 rfl tS80 rfl rfl) ?_
    clear hE a; intro a hE
    refine q0 p27_3_3 hE (st_load1 tA80 rfl ((blk_cell B_g 2).trans rfl)) ?_
    clear hE a; intro a hE
    refine q0 p27_3_4 hE (st_move rfl) ?_
    clear hE a; intro a hE
    obtain ⟨v, hv⟩ := Option.isSome_iff_exists.1 hHAS
    refine p_cons (s_still (v := Value.tuple #[Value.agg #[Value.int .i64 v.1, Value.int .i64 v.2], Value.bool true]) p27_3_5 hE wn_none rfl (Mi.st_look2 Try.underlying80 Try.underlying3 tZ85 rfl rfl hF B_gm (by rw [hv]; rfl) (by rw [hv]; rfl)) ?_)
    clear hE a; intro a hE
    refine q0 p27_3_6 hE (st_move rfl) ?_
    clear hE a; intro a hE
    refine q0 p27_3_7 hE (st_extract rfl rfl) ?_
    clear hE a; intro a hE
    refine q0 p27_3_8 hE (st_extract rfl rfl) ?_
    clear hE a; intro a hE
    refine p_cons (s_alloc p27_3_9 hE wn_none rfl tZ85 ?_)
    clear hE a; intro g1 w2 z3 B_g1 hk a hE
    replace B_g1 : w2.heap[g1]? = some (.cells #[Value.int .i64 0, Value.int .i64 0] 85 (0, 0)) := B_g1
    have n_g_g1 : g ≠ g1 := ne_new B_g z3
    have n_gm_g1 : gm ≠ g1 := ne_new B_gm z3
    have z_0_g1 := Nat.le_trans K_0.kept.1 z3
    replace B_g := kp_blk B_g hk (fun h => h)
    replace B_gm := kp_blk B_gm hk (fun h => h)
    replace K_0 := K_0.then_ hk (fun _ h => h.elim)
    clear hk
    refine p_cons (s_store (off := 0) (k := 2) (cs' := #[Value.int .i64 v.1, Value.int .i64 v.2]) p27_3_10 hE wn_none tS85 rfl rfl rfl rfl B_g1 (Nat.le_of_ble_eq_true rfl) rfl ?_)
    intro w4 B_g1' hk
    replace B_g := kp_blk B_g hk n_g_g1
    replace B_gm := kp_blk B_gm hk n_gm_g1
    replace K_0 := K_0.then_ hk (fun k h => by rw [show k = g1 from h]; exact Or.inr z_0_g1)
    replace B_g1 := B_g1'
    clear hk
    refine q0 p27_3_11 hE (st_assign rfl) ?_
    clear hE a; intro a hE
    refine p_nil ?_
    refine x_norm ?_
    refine c_reg R27_4_l ?_
    refine q0 p27_4_0 hE (st_move rfl) ?_
    clear hE a; intro a hE
    refine q0 p27_4_1 hE (st_nil rfl) ?_
    clear hE a; intro a hE
    refine q0 p27_4_2 hE (st_fieldAddr Try.underlying82 rfl tS80 rfl rfl) ?_
    clear hE a; intro a hE
    refine q0 p27_4_3 hE (st_load1 tA80 rfl ((blk_cell B_g 2).trans rfl)) ?_
    clear hE a; intro a hE
    refine q0 p27_4_4 hE (st_move rfl) ?_
    clear hE a; intro a hE
    refine p_cons (Mi.s_delI p27_4_5 hE wn_none Try.underlying80 Try.underlying3 rfl rfl hF B_gm ?_)
    intro esm6 ckm6 w5 MF_m6 B_gm' hk
    replace B_g := kp_blk B_g hk n_g_gm
    replace B_g1 := kp_blk B_g1 hk (Ne.symm n_gm_g1)
    replace K_0 := K_0.then_ hk (fun k h => by rw [show k = gm from h]; exact Or.inl rfl)
    replace B_gm := B_gm'
    clear hk
    refine p_nil ?_
    refine x_norm ?_
    refine c_reg R27_5_l ?_
    refine q0 p27_5_0 hE (st_move rfl) ?_
    clear hE a; intro a hE
    refine q0 p27_5_1 hE (st_assign rfl) ?_
    clear hE a; intro a hE
    refine p_nil ?_
    refine x_norm ?_
    refine wp_ret ?_
    refine ret_one (v := Value.bool true) rfl hE (.tmp rfl .nil) ?_
    exact ⟨esm6, ckm6, by rw [hv]; rfl, MF_m6, B_gm, K_0⟩
  ·
    refine c_reg R27_3_l ?_
    refine q0 p27_3_0 hE (st_move rfl) ?_
    clear hE a; intro a hE
    refine q0 p27_3_1 hE (st_nil rfl) ?_
    clear hE a; intro a hE
    refine q0 p27_3_2 hE (st_fieldAddr Try.underlying82 rfl tS80 rfl rfl) ?_
    clear hE a; intro a hE
    refine q0 p27_3_3 hE (st_load1 tA80 rfl ((blk_cell B_g 2).trans rfl)) ?_
    clear hE a; intro a hE
    refine q0 p27_3_4 hE (st_move rfl) ?_
    clear hE a; intro a hE
    have hv := Option.not_isSome_iff_eq_none.1 hHAS
    refine p_cons (s_still (v := Value.tuple #[Value.agg #[Value.int .i64 0, Value.int .i64 0], Value.bool false]) p27_3_5 hE wn_none rfl (Mi.st_look2 Try.underlying80 Try.underlying3 tZ85 rfl rfl hF B_gm (by rw [hv]; rfl) (by rw [hv]; rfl)) ?_)
    clear hE a; intro a hE
    refine q0 p27_3_6 hE (st_move rfl) ?_
    clear hE a; intro a hE
    refine q0 p27_3_7 hE (st_extract rfl rfl) ?_
    clear hE a; intro a hE
    refine q0 p27_3_8 hE (st_extract rfl rfl) ?_
    clear hE a; intro a hE
    refine p_cons (s_alloc p27_3_9 hE wn_none rfl tZ85 ?_)
    clear hE a; intro g7 w8 z9 B_g7 hk a hE
    replace B_g7 : w8.heap[g7]? = some (.cells #[Value.int .i64 0, Value.int .i64 0] 85 (0, 0)) := B_g7
    have n_g_g7 : g ≠ g7 := ne_new B_g z9
    have n_gm_g7 : gm ≠ g7 := ne_new B_gm z9
    have z_0_g7 := Nat.le_trans K_0.kept.1 z9
    replace B_g := kp_blk B_g hk (fun h => h)
    replace B_gm := kp_blk B_gm hk (fun h => h)
    replace K_0 := K_0.then_ hk (fun _ h => h.elim)
    clear hk
    refine p_cons (s_store (off := 0) (k := 2) (cs' := #[Value.int .i64 0, Value.int .i64 0]) p27_3_10 hE wn_none tS85 rfl rfl rfl rfl B_g7 (Nat.le_of_ble_eq_true rfl) rfl ?_)
    intro w10 B_g7' hk
    replace B_g := kp_blk B_g hk n_g_g7
    replace B_gm := kp_blk B_gm hk n_gm_g7
    replace K_0 := K_0.then_ hk (fun k h => by rw [show k = g7 from h]; exact Or.inr z_0_g7)
    replace B_g7 := B_g7'
    clear hk
    refine q0 p27_3_11 hE (st_assign rfl) ?_
    clear hE a; intro a hE
    refine p_nil ?_
    refine x_norm ?_
    refine c_reg R27_4_l ?_
    refine q0 p27_4_0 hE (st_move rfl) ?_
    clear hE a; intro a hE
    refine q0 p27_4_1 hE (st_nil rfl) ?_
    clear hE a; intro a hE
    refine q0 p27_4_2 hE (st_fieldAddr Try.underlying82 rfl tS80 rfl rfl) ?_
    clear hE a; intro a hE
    refine q0 p27_4_3 hE (st_load1 tA80 rfl ((blk_cell B_g 2).trans rfl)) ?_
    clear hE a; intro a hE
    refine q0 p27_4_4 hE (st_move rfl) ?_
    clear hE a; intro a hE
    refine p_cons (Mi.s_delI p27_4_5 hE wn_none Try.underlying80 Try.underlying3 rfl rfl hF B_gm ?_)
    intro esm12 ckm12 w11 MF_m12 B_gm' hk
    replace B_g := kp_blk B_g hk n_g_gm
    replace B_g7 := kp_blk B_g7 hk (Ne.symm n_gm_g7)
    replace K_0 := K_0.then_ hk (fun k h => by rw [show k = gm from h]; exact Or.inl rfl)
    replace B_gm := B_gm'
    clear hk
    refine p_nil ?_
    refine x_norm ?_
    refine c_reg R27_5_l ?_
    refine q0 p27_5_0 hE (st_move rfl) ?_
    clear hE a; intro a hE
    refine q0 p27_5_1 hE (st_assign rfl) ?_
    clear hE a; intro a hE
    refine p_nil ?_
    refine x_norm ?_
    refine wp_ret ?_
    refine ret_one (v := Value.bool false) rfl hE (.tmp rfl .nil) ?_
    exact ⟨esm12, ckm12, by rw [hv]; rfl, MF_m12, B_gm, K_0⟩
theorem R26_0_l : List.range (regOf Try.f26 0).size = [0] := by kernel_rfl
theorem R26_1_l : List.range (regOf Try.f26 1).size = [0, 1] := by kernel_rfl
theorem R26_2_l : List.range (regOf Try.f26 2).size = [0] := by kernel_rfl
theorem R26_3_l : List.range (regOf Try.f26 3).size = [0, 1, 2, 3, 4, 5, 6] := by kernel_rfl
theorem body26 : Try.f26.body = some (.seq (.region 0 (regOf Try.f26 0) false) (.seq (.seq (.region 1 (regOf Try.f26 1) false) (.cond (Operand.tmp 4) (.seq (.region 2 (regOf Try.f26 2) false) (.ret)) (.skip))) (.seq (.region 3 (regOf Try.f26 3) false) (.ret)))) := by kernel_rfl
theorem p26_0_0 : pj (regOf Try.f26 0) 0 = some (some 2, .assign (.const (.slice none 0 0)), 35, none) := by kernel_rfl
theorem p26_1_0 : pj (regOf Try.f26 1) 0 = some (some 3, .move (.tmp 0), 56, none) := by kernel_rfl
theorem p26_1_1 : pj (regOf Try.f26 1) 1 = some (some 4, .binOp .eql 56 (.tmp 3) (.const (.pointer none)) 56, 4, none) := by kernel_rfl
theorem p26_3_0 : pj (regOf Try.f26 3) 0 = some (some 5, .move (.tmp 0), 56, none) := by kernel_rfl
theorem p26_3_1 : pj (regOf Try.f26 3) 1 = some (some 6, .nilCheck (.tmp 5), 0, none) := by kernel_rfl
theorem p26_3_2 : pj (regOf Try.f26 3) 2 = some (some 7, .fieldAddr 82 (.tmp 6) 2, 0, none) := by kernel_rfl
theorem p26_3_3 : pj (regOf Try.f26 3) 3 = some (some 8, .load 80 (.tmp 7), 80, none) := by kernel_rfl
theorem p26_3_4 : pj (regOf Try.f26 3) 4 = some (some 9, .call { callee := .value (.func 43), args := #[.tmp 8], argTypes := #[80] }, 88, none) := by kernel_rfl
theorem cl43 : callable Try.f43 = true := by kernel_rfl
theorem p26_3_5 : pj (regOf Try.f26 3) 5 = some (some 10, .call { callee := .value (.func 42), args := #[.tmp 9], argTypes := #[88] }, 35, none) := by kernel_rfl
theorem cl42 : callable Try.f42 = true := by kernel_rfl
theorem p26_3_6 : pj (regOf Try.f26 3) 6 = some (some 2, .assign (.tmp 10), 35, none) := by kernel_rfl
set_option maxHeartbeats 4000000 in
theorem open_any (g gm ck : Nat) (es : Array MapEntry) (l : List (Int × (Int × Int))) (wt tr : Int) (w : World) (hl : l.length ≤ 1000) (hg : w.heap[g]? = some (.cells #[.int .i64 wt, .int .i64 tr, .map (some gm)] 82 (0, 0))) (hm : w.heap[gm]? = some (.map es ck)) (hF : MapI encO es ck l) (hne : g ≠ gm) : Calls Try.prog 26 #[.pointer (some ⟨g, 0, none⟩)] w fun e w' => ∃ A c, e = .returned (.slice A l.length c) ∧ w'.ownsRow w.heap.size 3 1 (.slice A l.length c) l.length (encs (Value.int .i64) (Ms.ks l)) ∧ Kp w w' (fun _ => False) := by
  have K_0 := Kp.refl w (fun _ => False)
  have B_g := hg
  have B_gm := hm
  have n_g_gm := hne
  refine enter (args := [Value.pointer (some ⟨g, 0, none⟩)]) (n := 11) Try.func26 body26 rfl rfl rfl ?_
  intro a hE
  refine c_reg R26_0_l ?_
  refine q0 p26_0_0 hE (st_assign rfl) ?_
  clear hE a; intro a hE
  refine p_nil ?_
  refine x_norm ?_
  refine wp_seq ?_
  refine c_reg R26_1_l ?_
  refine q0 p26_1_0 hE (st_move rfl) ?_
  clear hE a; intro a hE
  refine q0 p26_1_1 hE (st_eqlP (b := false) tP56 rfl rfl rfl) ?_
  clear hE a; intro a hE
  refine p_nil ?_
  refine x_norm ?_
  refine c_cond (t := false) hE rfl ?_
  refine wp_skip ?_
  refine x_norm ?_
  refine c_reg R26_3_l ?_
  refine q0 p26_3_0 hE (st_move rfl) ?_
  clear hE a; intro a hE
  refine q0 p26_3_1 hE (st_nil rfl) ?_
  clear hE a; intro a hE
  refine q0 p26_3_2 hE (st_fieldAddr Try.underlying82 rfl tS80 rfl rfl) ?_
  clear hE a; intro a hE
  refine q0 p26_3_3 hE (st_load1 tA80 rfl ((blk_cell B_g 2).trans rfl)) ?_
  clear hE a; intro a hE
  refine p_cons (s_call (xs := [Operand.tmp 8]) (args := [Value.map (some gm)]) p26_3_4 hE wn_none rfl rfl Try.func43 cl43 (Ms.keys_any (some gm) _) ?_)
  rintro e w3 ⟨gk1, z2, rfl, B_gk1, hk⟩
  have n_g_gk1 : g ≠ gk1 := ne_new B_g z2
  have n_gm_gk1 : gm ≠ gk1 := ne_new B_gm z2
  have z_0_gk1 := Nat.le_trans K_0.kept.1 z2
  replace B_g := kp_blk B_g hk (fun h => h)
  replace B_gm := kp_blk B_gm hk (fun h => h)
  replace K_0 := K_0.then_ hk (fun _ h => h.elim)
  refine ⟨_, rfl, ?_⟩
  clear hE a; intro a hE
  have hnb_g := blk_lt B_g
  have hnb_gm := blk_lt B_gm
  have hnb_gk1 := blk_lt B_gk1
  have hnz_0 := K_0.kept.1
  refine p_cons (s_call (xs := [Operand.tmp 9]) (args := [Value.func (.func 54) #[] #[Value.pointer (some ⟨gk1, 0, none⟩)]]) p26_3_5 hE wn_none rfl rfl Try.func42 cl42 (Ms.sorted_any hF (by omega) _ B_gm B_gk1) ?_)
  rintro e w7 ⟨A5, c6, rfl, O_q4, hk⟩
  replace B_g := kp_blk B_g hk (fun h => h)
  replace B_gm := kp_blk B_gm hk (fun h => h)
  replace B_gk1 := kp_blk B_gk1 hk (fun h => h)
  replace K_0 := K_0.then_ hk (fun _ h => h.elim)
  have Nb_q4_g : ¬ OB A5 g := fun h => by have := (own_ob O_q4 h).1; have := hnb_g; omega
  have Nb_q4_gm : ¬ OB A5 gm := fun h => by have := (own_ob O_q4 h).1; have := hnb_gm; omega
  have Nb_q4_gk1 : ¬ OB A5 gk1 := fun h => by have := (own_ob O_q4 h).1; have := hnb_gk1; omega
  have Z_0_q4 : ∀ k, OB A5 k → (fun _ => False) k ∨ w.heap.size ≤ k := fun k h => .inr (by have := (own_ob O_q4 h).1; have := hnz_0; omega)
  replace O_q4 := own_lower O_q4 hnz_0
  refine ⟨_, rfl, ?_⟩
  clear hE a; intro a hE
  refine q0 p26_3_6 hE (st_assign rfl) ?_
  clear hE a; intro a hE
  refine p_nil ?_
  refine x_norm ?_
  refine wp_ret ?_
  refine ret_one (v := Value.slice A5 l.length c6) rfl hE (.tmp rfl .nil) ?_
  exact ⟨_, _, rfl, O_q4, K_0⟩
theorem R31_0_l : List.range (regOf Try.f31 0).size = [0, 1] := by kernel_rfl
theorem R31_1_l : List.range (regOf Try.f31 1).size = [0, 1, 2, 3, 4] := by kernel_rfl
theorem body31 : Try.f31.body = some (.seq (.region 0 (regOf Try.f31 0) false) (.cond (Operand.tmp 3) (.region 1 (regOf Try.f31 1) false) (.skip))) := by kernel_rfl
theorem p31_0_0 : pj (regOf Try.f31 0) 0 = some (some 2, .move (.tmp 0), 56, none) := by kernel_rfl
theorem p31_0_1 : pj (regOf Try.f31 0) 1 = some (some 3, .binOp .neq 56 (.tmp 2) (.const (.pointer none)) 56, 4, none) := by kernel_rfl
theorem p31_1_0 : pj (regOf Try.f31 1) 0 = some (some 4, .move (.tmp 0), 56, none) := by kernel_rfl
theorem p31_1_1 : pj (regOf Try.f31 1) 1 = some (some 5, .nilCheck (.tmp 4), 0, none) := by kernel_rfl
theorem p31_1_2 : pj (regOf Try.f31 1) 2 = some (some 6, .fieldAddr 82 (.tmp 5) 2, 0, none) := by kernel_rfl
theorem p31_1_3 : pj (regOf Try.f31 1) 3 = some (some 7, .load 80 (.tmp 6), 80, none) := by kernel_rfl
theorem p31_1_4 : pj (regOf Try.f31 1) 4 = some (none, .call { callee := .builtin .clear, args := #[.tmp 7], argTypes := #[80] }, 0, none) := by kernel_rfl
set_option maxHeartbeats 4000000 in
theorem clear_any (g gm ck : Nat) (es : Array MapEntry) (l : List (Int × (Int × Int))) (wt tr : Int) (w : World) (hg : w.heap[g]? = some (.cells #[.int .i64 wt, .int .i64 tr, .map (some gm)] 82 (0, 0))) (hm : w.heap[gm]? = some (.map es ck)) (hF : MapI encO es ck l) (hne : g ≠ gm) : Calls Try.prog 31 #[.pointer (some ⟨g, 0, none⟩)] w fun e w' => ∃ es' ck', e = .returned (.tuple #[]) ∧ MapI encO es' ck' [] ∧ w'.heap[gm]? = some (.map es' ck') ∧ Kp w w' (fun k => k = gm) := by
  have K_0 := Kp.refl w (fun k => k = gm)
  have B_g := hg
  have B_gm := hm
  have n_g_gm := hne
  refine enter (args := [Value.pointer (some ⟨g, 0, none⟩)]) (n := 8) Try.func31 body31 rfl rfl rfl ?_
  intro a hE
  refine c_reg R31_0_l ?_
  refine q0 p31_0_0 hE (st_move rfl) ?_
  clear hE a; intro a hE
  refine q0 p31_0_1 hE (st_neqP (b := true) tP56 rfl rfl rfl) ?_
  clear hE a; intro a hE
  refine p_nil ?_
  refine x_norm ?_
  refine c_cond (t := true) hE rfl ?_
  refine c_regL R31_1_l ?_
  refine q0 p31_1_0 hE (st_move rfl) ?_
  clear hE a; intro a hE
  refine q0 p31_1_1 hE (st_nil rfl) ?_
  clear hE a; intro a hE
  refine q0 p31_1_2 hE (st_fieldAddr Try.underlying82 rfl tS80 rfl rfl) ?_
  clear hE a; intro a hE
  refine q0 p31_1_3 hE (st_load1 tA80 rfl ((blk_cell B_g 2).trans rfl)) ?_
  clear hE a; intro a hE
  refine p_cons (Mi.s_clearI p31_1_4 hE wn_none encO Try.underlying80 rfl B_gm ?_)
  intro esm2 ckm2 w1 MF_m2 B_gm' hk
  replace B_g := kp_blk B_g hk n_g_gm
  replace K_0 := K_0.then_ hk (fun k h => by rw [show k = gm from h]; exact Or.inl rfl)
  replace B_gm := B_gm'
  clear hk
  refine p_nil ?_
  refine end_of_ret ?_
  refine ret_list (rs := []) (vs := []) rfl hE .nil rfl ?_
  exact ⟨esm2, ckm2, rfl, MF_m2, B_gm, K_0⟩
theorem at0_enc (l : LO) (s : Int) : ((getI l s).map encO).getD (.agg #[.int .i64 0, .int .i64 0]) = .agg #[.int .i64 (at0 l s).1, .int .i64 (at0 l s).2] := by
  unfold at0
  cases getI l s <;> rfl
theorem fold_next {α β : Type} (f : β → α → β) (a : β) {l : List α} {j : Nat} {s : α} (h : l[j]? = some s) : (l.take (j + 1)).foldl f a = f ((l.take j).foldl f a) s := by
  rw [List.take_add_one, h, List.foldl_append]
  rfl
theorem R24_0_l : List.range (regOf Try.f24 0).size = [0, 1] := by kernel_rfl
theorem R24_1_l : List.range (regOf Try.f24 1).size = [0, 1, 2] := by kernel_rfl
theorem R24_2_l : List.range (regOf Try.f24 2).size = [0, 1] := by kernel_rfl
theorem R24_3_l : List.range (regOf Try.f24 3).size = [0, 1, 2, 3] := by kernel_rfl
theorem R24_4_l : List.range (regOf Try.f24 4).size = [0] := by kernel_rfl
theorem R24_5_l : List.range (regOf Try.f24 5).size = [0, 1, 2] := by kernel_rfl
theorem R24_6_l : List.range (regOf Try.f24 6).size = [0, 1, 2, 3, 4, 5, 6, 7] := by kernel_rfl
theorem R24_9_l : List.range (regOf Try.f24 9).size = [0, 1, 2, 3, 4] := by kernel_rfl
theorem R24_10_l : List.range (regOf Try.f24 10).size = [0, 1, 2, 3, 4, 5, 6, 7] := by kernel_rfl
theorem R24_11_l : List.range (regOf Try.f24 11).size = [0, 1, 2, 3, 4] := by kernel_rfl
theorem R24_12_l : List.range (regOf Try.f24 12).size = [0, 1, 2, 3, 4, 5] := by kernel_rfl
theorem R24_7_l : List.range (regOf Try.f24 7).size = [0, 1, 2, 3, 4] := by kernel_rfl
theorem R24_8_l : List.range (regOf Try.f24 8).size = [0, 1, 2, 3, 4, 5, 6, 7, 8, 9, 10, 11, 12, 13, 14, 15] := by kernel_rfl
theorem R24_13_l : List.range (regOf Try.f24 13).size = [0, 1] := by kernel_rfl
theorem R24_14_l : List.range (regOf Try.f24 14).size = [0, 1, 2, 3] := by kernel_rfl
theorem body24 : Try.f24.body = some (.seq (.region 0 (regOf Try.f24 0) false) (.seq (.seq (.region 1 (regOf Try.f24 1) false) (.cond (Operand.tmp 11) (.seq (.region 2 (regOf Try.f24 2) false) (.ret)) (.skip))) (.seq (.seq (.region 3 (regOf Try.f24 3) false) (.block 0 (.loop (.seq (.region 4 (regOf Try.f24 4) false) (.seq (.cond (Operand.tmp 16) (.skip) (.exit 0)) (.seq (.block 1 (.seq (.region 5 (regOf Try.f24 5) false) (.seq (.region 6 (regOf Try.f24 6) false) (.block 2 (.seq (.region 9 (regOf Try.f24 9) false) (.cond (Operand.tmp 44) (.skip) (.seq (.region 10 (regOf Try.f24 10) true) (.cond (Operand.tmp 49) (.seq (.region 11 (regOf Try.f24 11) false) (.region 12 (regOf Try.f24 12) false)) (.seq (.region 7 (regOf Try.f24 7) false) (.region 8 (regOf Try.f24 8) true)))))))))) (.region 13 (regOf Try.f24 13) false))))))) (.seq (.region 14 (regOf Try.f24 14) false) (.ret))))) := by kernel_rfl
theorem p24_0_0 : pj (regOf Try.f24 0) 0 = some (some 4, .assign (.const (.slice none 0 0)), 35, none) := by kernel_rfl
theorem p24_0_1 : pj (regOf Try.f24 0) 1 = some (some 5, .assign (.const (.slice none 0 0)), 35, none) := by kernel_rfl
theorem p24_1_0 : pj (regOf Try.f24 1) 0 = some (some 9, .move (.tmp 1), 3, none) := by kernel_rfl
theorem p24_1_1 : pj (regOf Try.f24 1) 1 = some (some 10, .call { callee := .value (.func 41), args := #[.tmp 9], argTypes := #[3] }, 4, none) := by kernel_rfl
theorem p24_1_2 : pj (regOf Try.f24 1) 2 = some (some 11, .unOp .not 4 (.tmp 10), 4, none) := by kernel_rfl
theorem p24_3_0 : pj (regOf Try.f24 3) 0 = some (some 12, .move (.tmp 0), 56, none) := by kernel_rfl
theorem p24_3_1 : pj (regOf Try.f24 3) 1 = some (some 13, .call { callee := .value (.func 26), args := #[.tmp 12], argTypes := #[56] }, 35, none) := by kernel_rfl
theorem cl26 : callable Try.f26 = true := by kernel_rfl
theorem p24_3_2 : pj (regOf Try.f24 3) 2 = some (some 14, .call { callee := .builtin .len, args := #[.tmp 13], argTypes := #[35] }, 3, none) := by kernel_rfl
theorem p24_3_3 : pj (regOf Try.f24 3) 3 = some (some 15, .move (.const (.int .i64 0)), 3, none) := by kernel_rfl
theorem p24_4_0 : pj (regOf Try.f24 4) 0 = some (some 16, .binOp .lss 3 (.tmp 15) (.tmp 14) 3, 0, none) := by kernel_rfl
theorem p24_5_0 : pj (regOf Try.f24 5) 0 = some (some 17, .indexAddr 35 (.tmp 13) (.tmp 15), 0, none) := by kernel_rfl
theorem p24_5_1 : pj (regOf Try.f24 5) 1 = some (some 18, .load 3 (.tmp 17), 3, none) := by kernel_rfl
theorem p24_5_2 : pj (regOf Try.f24 5) 2 = some (some 7, .assign (.tmp 18), 3, none) := by kernel_rfl
theorem p24_6_0 : pj (regOf Try.f24 6) 0 = some (some 19, .move (.tmp 0), 56, none) := by kernel_rfl
theorem p24_6_1 : pj (regOf Try.f24 6) 1 = some (some 20, .nilCheck (.tmp 19), 0, none) := by kernel_rfl
theorem p24_6_2 : pj (regOf Try.f24 6) 2 = some (some 21, .fieldAddr 82 (.tmp 20) 2, 0, none) := by kernel_rfl
theorem p24_6_3 : pj (regOf Try.f24 6) 3 = some (some 22, .load 80 (.tmp 21), 80, none) := by kernel_rfl
theorem p24_6_4 : pj (regOf Try.f24 6) 4 = some (some 23, .move (.tmp 7), 3, none) := by kernel_rfl
theorem p24_6_5 : pj (regOf Try.f24 6) 5 = some (some 24, .lookup 80 (.tmp 22) (.tmp 23) false, 85, none) := by kernel_rfl
theorem p24_6_6 : pj (regOf Try.f24 6) 6 = some (some 8, .alloc 85, 0, none) := by kernel_rfl
theorem p24_6_7 : pj (regOf Try.f24 6) 7 = some (none, .store 85 (.tmp 8) (.tmp 24), 0, none) := by kernel_rfl
theorem p24_9_0 : pj (regOf Try.f24 9) 0 = some (some 45, .fieldAddr 85 (.tmp 8) 0, 0, none) := by kernel_rfl
theorem p24_9_1 : pj (regOf Try.f24 9) 1 = some (some 46, .load 3 (.tmp 45), 3, none) := by kernel_rfl
theorem p24_9_2 : pj (regOf Try.f24 9) 2 = some (some 47, .move (.tmp 1), 3, none) := by kernel_rfl
theorem p24_9_3 : pj (regOf Try.f24 9) 3 = some (some 48, .binOp .gtr 3 (.tmp 46) (.tmp 47) 3, 4, none) := by kernel_rfl
theorem p24_9_4 : pj (regOf Try.f24 9) 4 = some (some 44, .assign (.tmp 48), 4, none) := by kernel_rfl
theorem p24_13_0 : pj (regOf Try.f24 13) 0 = some (some 66, .binOp .add 3 (.tmp 15) (.const (.int .i64 1)) 3, 3, none) := by kernel_rfl
theorem p24_13_1 : pj (regOf Try.f24 13) 1 = some (some 15, .move (.tmp 66), 3, none) := by kernel_rfl
theorem ns24_10 : Region.noSelect (regOf Try.f24 10) = true := by kernel_rfl
theorem p24_10_0 : pj (regOf Try.f24 10) 0 = some (some 50, .fieldAddr 85 (.tmp 8) 1, 0, none) := by kernel_rfl
theorem p24_10_1 : pj (regOf Try.f24 10) 1 = some (some 51, .load 3 (.tmp 50), 3, none) := by kernel_rfl
theorem p24_10_2 : pj (regOf Try.f24 10) 2 = some (some 52, .move (.tmp 0), 56, none) := by kernel_rfl
theorem p24_10_3 : pj (regOf Try.f24 10) 3 = some (some 53, .nilCheck (.tmp 52), 0, none) := by kernel_rfl
theorem p24_10_4 : pj (regOf Try.f24 10) 4 = some (some 54, .fieldAddr 82 (.tmp 53) 1, 0, none) := by kernel_rfl
theorem p24_10_5 : pj (regOf Try.f24 10) 5 = some (some 55, .load 3 (.tmp 54), 3, none) := by kernel_rfl
theorem p24_10_6 : pj (regOf Try.f24 10) 6 = some (some 56, .binOp .geq 3 (.tmp 51) (.tmp 55) 3, 4, none) := by kernel_rfl
theorem p24_10_7 : pj (regOf Try.f24 10) 7 = some (some 49, .assign (.tmp 56), 4, none) := by kernel_rfl
theorem p24_11_0 : pj (regOf Try.f24 11) 0 = some (some 57, .move (.tmp 5), 35, none) := by kernel_rfl
theorem p24_11_1 : pj (regOf Try.f24 11) 1 = some (some 58, .move (.tmp 7), 3, none) := by kernel_rfl
theorem p24_11_2 : pj (regOf Try.f24 11) 2 = some (some 59, .buildSlice 35 1 #[(0, .tmp 58)], 35, none) := by kernel_rfl
theorem p24_11_3 : pj (regOf Try.f24 11) 3 = some (some 60, .call { callee := .builtin .append, args := #[.tmp 57, .tmp 59], argTypes := #[35, 35] }, 35, none) := by kernel_rfl
theorem eD3 : elemD Try.prog 3 = some (1, 1, 8) := by kernel_rfl
theorem p24_11_4 : pj (regOf Try.f24 11) 4 = some (some 5, .assign (.tmp 60), 35, none) := by kernel_rfl
theorem p24_12_0 : pj (regOf Try.f24 12) 0 = some (some 61, .move (.tmp 0), 56, none) := by kernel_rfl
theorem p24_12_1 : pj (regOf Try.f24 12) 1 = some (some 62, .nilCheck (.tmp 61), 0, none) := by kernel_rfl
theorem p24_12_2 : pj (regOf Try.f24 12) 2 = some (some 63, .fieldAddr 82 (.tmp 62) 2, 0, none) := by kernel_rfl
theorem p24_12_3 : pj (regOf Try.f24 12) 3 = some (some 64, .load 80 (.tmp 63), 80, none) := by kernel_rfl
theorem p24_12_4 : pj (regOf Try.f24 12) 4 = some (some 65, .move (.tmp 7), 3, none) := by kernel_rfl
theorem p24_12_5 : pj (regOf Try.f24 12) 5 = some (none, .call { callee := .builtin .delete, args := #[.tmp 64, .tmp 65], argTypes := #[80, 3] }, 0, none) := by kernel_rfl
theorem p24_7_0 : pj (regOf Try.f24 7) 0 = some (some 25, .move (.tmp 4), 35, none) := by kernel_rfl
theorem p24_7_1 : pj (regOf Try.f24 7) 1 = some (some 26, .move (.tmp 7), 3, none) := by kernel_rfl
theorem p24_7_2 : pj (regOf Try.f24 7) 2 = some (some 27, .buildSlice 35 1 #[(0, .tmp 26)], 35, none) := by kernel_rfl
theorem p24_7_3 : pj (regOf Try.f24 7) 3 = some (some 28, .call { callee := .builtin .append, args := #[.tmp 25, .tmp 27], argTypes := #[35, 35] }, 35, none) := by kernel_rfl
theorem p24_7_4 : pj (regOf Try.f24 7) 4 = some (some 4, .assign (.tmp 28), 35, none) := by kernel_rfl
theorem ns24_8 : Region.noSelect (regOf Try.f24 8) = true := by kernel_rfl
theorem p24_8_0 : pj (regOf Try.f24 8) 0 = some (some 29, .move (.tmp 0), 56, none) := by kernel_rfl
theorem p24_8_1 : pj (regOf Try.f24 8) 1 = some (some 30, .nilCheck (.tmp 29), 0, none) := by kernel_rfl
theorem p24_8_2 : pj (regOf Try.f24 8) 2 = some (some 31, .fieldAddr 82 (.tmp 30) 2, 0, none) := by kernel_rfl
theorem p24_8_3 : pj (regOf Try.f24 8) 3 = some (some 32, .load 80 (.tmp 31), 80, none) := by kernel_rfl
theorem p24_8_4 : pj (regOf Try.f24 8) 4 = some (some 33, .move (.tmp 7), 3, none) := by kernel_rfl
theorem p24_8_5 : pj (regOf Try.f24 8) 5 = some (some 34, .move (.tmp 1), 3, none) := by kernel_rfl
theorem p24_8_6 : pj (regOf Try.f24 8) 6 = some (some 35, .move (.tmp 0), 56, none) := by kernel_rfl
theorem p24_8_7 : pj (regOf Try.f24 8) 7 = some (some 36, .nilCheck (.tmp 35), 0, none) := by kernel_rfl
theorem p24_8_8 : pj (regOf Try.f24 8) 8 = some (some 37, .fieldAddr 82 (.tmp 36) 0, 0, none) := by kernel_rfl
theorem p24_8_9 : pj (regOf Try.f24 8) 9 = some (some 38, .load 3 (.tmp 37), 3, none) := by kernel_rfl
theorem p24_8_10 : pj (regOf Try.f24 8) 10 = some (some 39, .binOp .add 3 (.tmp 34) (.tmp 38) 3, 3, none) := by kernel_rfl
theorem p24_8_11 : pj (regOf Try.f24 8) 11 = some (some 40, .fieldAddr 85 (.tmp 8) 1, 0, none) := by kernel_rfl
theorem p24_8_12 : pj (regOf Try.f24 8) 12 = some (some 41, .load 3 (.tmp 40), 3, none) := by kernel_rfl
theorem p24_8_13 : pj (regOf Try.f24 8) 13 = some (some 42, .binOp .add 3 (.tmp 41) (.const (.int .i64 1)) 3, 3, none) := by kernel_rfl
theorem p24_8_14 : pj (regOf Try.f24 8) 14 = some (some 43, .build 85 #[(0, .tmp 39), (1, .tmp 42)], 85, none) := by kernel_rfl
theorem p24_8_15 : pj (regOf Try.f24 8) 15 = some (none, .mapUpdate 80 (.tmp 32) (.tmp 33) (.tmp 43), 0, none) := by kernel_rfl
theorem p24_14_0 : pj (regOf Try.f24 14) 0 = some (some 67, .move (.tmp 4), 35, none) := by kernel_rfl
theorem p24_14_1 : pj (regOf Try.f24 14) 1 = some (some 68, .move (.tmp 5), 35, none) := by kernel_rfl
theorem p24_14_2 : pj (regOf Try.f24 14) 2 = some (some 4, .assign (.tmp 67), 35, none) := by kernel_rfl
theorem p24_14_3 : pj (regOf Try.f24 14) 3 = some (some 5, .assign (.tmp 68), 35, none) := by kernel_rfl
theorem p24_2_0 : pj (regOf Try.f24 2) 0 = some (some 4, .assign (.const (.slice none 0 0)), 35, none) := by kernel_rfl
theorem p24_2_1 : pj (regOf Try.f24 2) 1 = some (some 5, .assign (.const (.slice none 0 0)), 35, none) := by kernel_rfl
set_option maxHeartbeats 4000000 in
theorem due_any (g gm ck : Nat) (es : Array MapEntry) (l : List (Int × (Int × Int))) (wt tr : Int) (now : Int) (w : World) (hw : 0 ≤ wt ∧ wt ≤ 1048576) (htr : tr ≤ 16) (hok : Ok l) (hg : w.heap[g]? = some (.cells #[.int .i64 wt, .int .i64 tr, .map (some gm)] 82 (0, 0))) (hm : w.heap[gm]? = some (.map es ck)) (hF : MapI encO es ck l) (hne : g ≠ gm) : Calls Try.prog 24 #[.pointer (some ⟨g, 0, none⟩), .int .i64 now] w fun e w' => ∃ A c B d es' ck', e = .returned (.tuple #[.slice A (dueS wt tr now l).again.length c, .slice B (dueS wt tr now l).lost.length d]) ∧ w'.ownsRow w.heap.size 3 1 (.slice A (dueS wt tr now l).again.length c) (dueS wt tr now l).again.length (encs (Value.int .i64) (dueS wt tr now l).again) ∧ w'.ownsRow w.heap.size 3 1 (.slice B (dueS wt tr now l).lost.length d) (dueS wt tr now l).lost.length (encs (Value.int .i64) (dueS wt tr now l).lost) ∧ (∀ k, OB A k → ¬ OB B k) ∧ MapI encO es' ck' (dueS wt tr now l).l ∧ Ok (dueS wt tr now l).l ∧ w'.heap[gm]? = some (.map es' ck') ∧ Kp w w' (fun k => k = gm) := by
  have K_0 := Kp.refl w (fun k => k = gm)
  have B_g := hg
  have B_gm := hm
  have n_g_gm := hne
  refine enter (args := [Value.pointer (some ⟨g, 0, none⟩), Value.int .i64 now]) (n := 69) Try.func24 body24 rfl rfl rfl ?_
  intro a hE
  refine c_reg R24_0_l ?_
  refine q0 p24_0_0 hE (st_assign rfl) ?_
  clear hE a; intro a hE
  refine q0 p24_0_1 hE (st_assign rfl) ?_
  clear hE a; intro a hE
  refine p_nil ?_
  refine x_norm ?_
  refine wp_seq ?_
  rcases Decidable.em (timeB now = true) with hTM | hTM
  ·
    have htb : 0 ≤ now ∧ now ≤ 1152921504606846976 := of_decide_eq_true hTM
    have hll := ok_len hF.nodup hok
    refine c_reg R24_1_l ?_
    refine q0 p24_1_0 hE (st_move rfl) ?_
    clear hE a; intro a hE
    refine p_cons (s_call (xs := [Operand.tmp 9]) (args := [Value.int .i64 now]) p24_1_1 hE wn_none rfl rfl Try.func41 cl41 (time_any now true hTM _) ?_)
    rintro e w1 ⟨rfl, hk⟩
    replace B_g := kp_blk B_g hk (fun h => h)
    replace B_gm := kp_blk B_gm hk (fun h => h)
    replace K_0 := K_0.then_ hk (fun _ h => h.elim)
    refine ⟨_, rfl, ?_⟩
    clear hE a; intro a hE
    refine q0 p24_1_2 hE (st_not rfl rfl) ?_
    clear hE a; intro a hE
    refine p_nil ?_
    refine x_norm ?_
    refine c_cond (t := false) hE rfl ?_
    refine wp_skip ?_
    refine x_norm ?_
    refine wp_seq ?_
    refine c_reg R24_3_l ?_
    refine q0 p24_3_0 hE (st_move rfl) ?_
    clear hE a; intro a hE
    have hnb_g := blk_lt B_g
    have hnb_gm := blk_lt B_gm
    have hnz_0 := K_0.kept.1
    refine p_cons (s_call (xs := [Operand.tmp 12]) (args := [Value.pointer (some ⟨g, 0, none⟩)]) p24_3_1 hE wn_none rfl rfl Try.func26 cl26 (open_any g gm ck es l wt tr _ (by omega) B_g B_gm hF n_g_gm) ?_)
    rintro e w5 ⟨A3, c4, rfl, O_q2, hk⟩
    replace B_g := kp_blk B_g hk (fun h => h)
    replace B_gm := kp_blk B_gm hk (fun h => h)
    replace K_0 := K_0.then_ hk (fun _ h => h.elim)
    have Nb_q2_g : ¬ OB A3 g := fun h => by have := (own_ob O_q2 h).1; have := hnb_g; omega
    have Nb_q2_gm : ¬ OB A3 gm := fun h => by have := (own_ob O_q2 h).1; have := hnb_gm; omega
    have Z_0_q2 : ∀ k, OB A3 k → (fun k => k = gm) k ∨ w.heap.size ≤ k := fun k h => .inr (by have := (own_ob O_q2 h).1; have := hnz_0; omega)
    replace O_q2 := own_lower O_q2 hnz_0
    refine ⟨_, rfl, ?_⟩
    clear hE a; intro a hE
    refine q0 p24_3_2 hE (st_len Try.underlying35 rfl) ?_
    clear hE a; intro a hE
    refine q0 p24_3_3 hE (st_move rfl) ?_
    clear hE a; intro a hE
    refine p_nil ?_
    refine x_norm ?_
    refine wp_block ?_
    have O_again := own_none w5 w.heap.size 3 1
    have Nb_again_g : ¬ OB none g := ob_nil
    have Nb_again_gm : ¬ OB none gm := ob_nil
    have Z_0_again : ∀ k, OB none k → (fun k => k = gm) k ∨ w.heap.size ≤ k := fun k h => absurd h ob_nil
    have NN_again_q2 : ∀ k, OB none k → ¬ OB A3 k := fun k h => absurd h ob_nil
    have NN_q2_again : ∀ k, OB A3 k → ¬ OB none k := fun k h h2 => NN_again_q2 k h2 h
    have O_lost := own_none w5 w.heap.size 3 1
    have Nb_lost_g : ¬ OB none g := ob_nil
    have Nb_lost_gm : ¬ OB none gm := ob_nil
    have Z_0_lost : ∀ k, OB none k → (fun k => k = gm) k ∨ w.heap.size ≤ k := fun k h => absurd h ob_nil
    have NN_lost_q2 : ∀ k, OB none k → ¬ OB A3 k := fun k h => absurd h ob_nil
    have NN_q2_lost : ∀ k, OB A3 k → ¬ OB none k := fun k h h2 => NN_lost_q2 k h2 h
    have NN_lost_again : ∀ k, OB none k → ¬ OB none k := fun k h => absurd h ob_nil
    have NN_again_lost : ∀ k, OB none k → ¬ OB none k := fun k h h2 => NN_lost_again k h2 h
    refine c_loop (α := Nat) (fun j a W => ∃ (A_again : Option Addr) (c_again : Nat) (n_again : Nat), ∃ (A_lost : Option Addr) (c_lost : Nat) (n_lost : Nat), ∃ (es9 : Array MapEntry), ∃ (ck9 : Nat), ∃ (q : St), En 69 a [(0, Value.pointer (some ⟨g, 0, none⟩)), (1, Value.int .i64 now), (11, Value.bool false), (13, Value.slice A3 l.length c4), (14, Value.int .i64 (l.length : Int)), (15, Value.int .i64 (j : Int)), (4, Value.slice A_again n_again c_again), (5, Value.slice A_lost n_lost c_lost)] ∧ j ≤ l.length ∧ MapI encO es9 ck9 q.l ∧ q = ((Ms.ks l).take j).foldl (stepD wt tr now) (⟨[], [], l⟩ : St) ∧ Ok q.l ∧ q.again.length ≤ j ∧ q.lost.length ≤ j ∧ W.heap[g]? = some (.cells #[Value.int .i64 wt, Value.int .i64 tr, Value.map (some gm)] 82 (0, 0)) ∧ W.heap[gm]? = some (.map es9 ck9) ∧ W.ownsRow w.heap.size 3 1 (.slice A3 l.length c4) l.length (encs (Value.int .i64) (Ms.ks l)) ∧ ¬ OB A3 g ∧ ¬ OB A3 gm ∧ (∀ k, OB A3 k → (fun k => k = gm) k ∨ w.heap.size ≤ k) ∧ (∀ k, OB A3 k → ¬ OB A_again k) ∧ (∀ k, OB A3 k → ¬ OB A_lost k) ∧ n_again = q.again.length ∧ W.ownsRow w.heap.size 3 1 (.slice A_again n_again c_again) n_again (encs (Value.int .i64) q.again) ∧ ¬ OB A_again g ∧ ¬ OB A_again gm ∧ (∀ k, OB A_again k → (fun k => k = gm) k ∨ w.heap.size ≤ k) ∧ (∀ k, OB A_again k → ¬ OB A3 k) ∧ (∀ k, OB A_again k → ¬ OB A_lost k) ∧ n_lost = q.lost.length ∧ W.ownsRow w.heap.size 3 1 (.slice A_lost n_lost c_lost) n_lost (encs (Value.int .i64) q.lost) ∧ ¬ OB A_lost g ∧ ¬ OB A_lost gm ∧ (∀ k, OB A_lost k → (fun k => k = gm) k ∨ w.heap.size ≤ k) ∧ (∀ k, OB A_lost k → ¬ OB A3 k) ∧ (∀ k, OB A_lost k → ¬ OB A_again k) ∧ Kp w W (fun k => k = gm)) (fun j => l.length - j) (0) ?_ ?_
    ·
      exact ⟨none, 0, 0, none, 0, 0, es, ck, (⟨[], [], l⟩ : St), En.sub hE ⟨rfl, rfl, rfl, rfl, rfl, rfl, rfl, rfl, trivial⟩, Nat.zero_le _, hF, rfl, hok, Nat.le_refl _, Nat.le_refl _, B_g, B_gm, O_q2, Nb_q2_g, Nb_q2_gm, Z_0_q2, NN_q2_again, NN_q2_lost, rfl, O_again, Nb_again_g, Nb_again_gm, Z_0_again, NN_again_q2, NN_again_lost, rfl, O_lost, Nb_lost_g, Nb_lost_gm, Z_0_lost, NN_lost_q2, NN_lost_again, K_0⟩
    ·
      clear hE a
      rintro j a w6 ⟨A_again, c_again, n_again, A_lost, c_lost, n_lost, es9, ck9, q, hE, hj9, MF9, hq, hoq, hna, hnl, B_g, B_gm, O_q2, Nb_q2_g, Nb_q2_gm, Z_0_q2, NN_q2_again, NN_q2_lost, hn_again, O_again, Nb_again_g, Nb_again_gm, Z_0_again, NN_again_q2, NN_again_lost, hn_lost, O_lost, Nb_lost_g, Nb_lost_gm, Z_0_lost, NN_lost_q2, NN_lost_again, K_0⟩
      rcases Decidable.em ((j : Int) < (l.length : Int)) with hK1 | hK1
      ·
        refine c_reg R24_4_l ?_
        refine q0 p24_4_0 hE (st_lss (b := true) rfl rfl (decide_eq_true hK1)) ?_
        clear hE a; intro a hE
        refine p_nil ?_
        refine x_norm ?_
        refine wp_seq ?_
        refine c_cond (t := true) hE rfl ?_
        refine wp_skip ?_
        refine x_norm ?_
        refine wp_seq ?_
        refine wp_block ?_
        refine c_reg R24_5_l ?_
        refine q0 p24_5_0 hE (st_indexAddrC (i := j) Try.underlying35 tS3 (own_told O_q2) rfl rfl (by omega)) ?_
        clear hE a; intro a hE
        refine q0 (v := Value.int .i64 (rd (Ms.ks l) (j : Int))) p24_5_1 hE (st_loadC (i := j) tA3 (own_told O_q2) (by omega) rfl) ?_
        clear hE a; intro a hE
        refine q0 p24_5_2 hE (st_assign rfl) ?_
        clear hE a; intro a hE
        refine p_nil ?_
        refine x_norm ?_
        refine c_reg R24_6_l ?_
        obtain ⟨s, hs⟩ : ∃ s, (Ms.ks l)[j]? = some s := ⟨_, List.getElem?_eq_getElem (by rw [Ms.ks_len]; omega)⟩
        have hrd : (rd (Ms.ks l) (j : Int)) = s := by unfold rd; rw [Int.toNat_natCast, List.getD_eq_getElem?_getD, hs]; rfl
        rw [hrd] at hE
        obtain ⟨v9, hv9⟩ := Ms.ks_mem.1 (List.mem_of_getElem? hs)
        have hsr := (hok _ hv9).1
        have hat := ok_at hoq s
        refine q0 p24_6_0 hE (st_move rfl) ?_
        clear hE a; intro a hE
        refine q0 p24_6_1 hE (st_nil rfl) ?_
        clear hE a; intro a hE
        refine q0 p24_6_2 hE (st_fieldAddr Try.underlying82 rfl tS80 rfl rfl) ?_
        clear hE a; intro a hE
        refine q0 p24_6_3 hE (st_load1 tA80 rfl ((blk_cell B_g 2).trans rfl)) ?_
        clear hE a; intro a hE
        refine q0 p24_6_4 hE (st_move rfl) ?_
        clear hE a; intro a hE
        refine p_cons (s_still (v := Value.agg #[Value.int .i64 ((at0 q.l s).1), Value.int .i64 ((at0 q.l s).2)]) p24_6_5 hE wn_none rfl (Mi.st_look1 Try.underlying80 Try.underlying3 tZ85 rfl rfl MF9 B_gm (at0_enc _ _)) ?_)
        clear hE a; intro a hE
        refine p_cons (s_alloc p24_6_6 hE wn_none rfl tZ85 ?_)
        clear hE a; intro g7 w8 z9 B_g7 hk a hE
        replace B_g7 : w8.heap[g7]? = some (.cells #[Value.int .i64 0, Value.int .i64 0] 85 (0, 0)) := B_g7
        have n_g_g7 : g ≠ g7 := ne_new B_g z9
        have n_gm_g7 : gm ≠ g7 := ne_new B_gm z9
        have z_0_g7 := Nat.le_trans K_0.kept.1 z9
        have Nb_q2_g7 : ¬ OB A3 g7 := fun h => by have := (own_ob O_q2 h).2; omega
        have Nb_again_g7 : ¬ OB A_again g7 := fun h => by have := (own_ob O_again h).2; omega
        have Nb_lost_g7 : ¬ OB A_lost g7 := fun h => by have := (own_ob O_lost h).2; omega
        replace B_g := kp_blk B_g hk (fun h => h)
        replace B_gm := kp_blk B_gm hk (fun h => h)
        replace O_q2 := own_keep O_q2 hk (fun _ _ h => h)
        replace O_again := own_keep O_again hk (fun _ _ h => h)
        replace O_lost := own_keep O_lost hk (fun _ _ h => h)
        replace K_0 := K_0.then_ hk (fun _ h => h.elim)
        clear hk
        refine p_cons (s_store (off := 0) (k := 2) (cs' := #[Value.int .i64 ((at0 q.l s).1), Value.int .i64 ((at0 q.l s).2)]) p24_6_7 hE wn_none tS85 rfl rfl rfl rfl B_g7 (Nat.le_of_ble_eq_true rfl) rfl ?_)
        intro w10 B_g7' hk
        replace B_g := kp_blk B_g hk n_g_g7
        replace B_gm := kp_blk B_gm hk n_gm_g7
        replace O_q2 := own_keep O_q2 hk (fun k hk2 h2 => Nb_q2_g7 (by rw [show k = g7 from h2] at hk2; exact hk2))
        replace O_again := own_keep O_again hk (fun k hk2 h2 => Nb_again_g7 (by rw [show k = g7 from h2] at hk2; exact hk2))
        replace O_lost := own_keep O_lost hk (fun k hk2 h2 => Nb_lost_g7 (by rw [show k = g7 from h2] at hk2; exact hk2))
        replace K_0 := K_0.then_ hk (fun k h => by rw [show k = g7 from h]; exact Or.inr z_0_g7)
        replace B_g7 := B_g7'
        clear hk
        refine p_nil ?_
        refine x_norm ?_
        refine wp_block ?_
        rcases Decidable.em (now < (at0 q.l s).1) with hLATE | hLATE
        ·
          refine c_reg R24_9_l ?_
          refine q0 p24_9_0 hE (st_fieldAddr Try.underlying85 rfl tS3 rfl rfl) ?_
          clear hE a; intro a hE
          refine q0 p24_9_1 hE (st_load1 tA3 rfl ((blk_cell B_g7 0).trans rfl)) ?_
          clear hE a; intro a hE
          refine q0 p24_9_2 hE (st_move rfl) ?_
          clear hE a; intro a hE
          refine q0 p24_9_3 hE (st_gtr (b := true) rfl rfl (decide_eq_true hLATE)) ?_
          clear hE a; intro a hE
          refine q0 p24_9_4 hE (st_assign rfl) ?_
          clear hE a; intro a hE
          refine p_nil ?_
          refine x_norm ?_
          refine c_cond (t := true) hE rfl ?_
          refine wp_skip ?_
          refine x_normB ?_
          refine x_normB ?_
          refine x_norm ?_
          refine c_regL R24_13_l ?_
          refine q0 p24_13_0 hE (st_add (z := (j : Int) + 1) rfl rfl (wr_i64 _ (by omega) (by omega))) ?_
          clear hE a; intro a hE
          refine q0 p24_13_1 hE (st_move rfl) ?_
          clear hE a; intro a hE
          refine p_nil ?_
          refine x_norm ?_
          have hq9 : q = ((Ms.ks l).take (j + 1)).foldl (stepD wt tr now) (⟨[], [], l⟩ : St) := by rw [fold_next _ _ hs, ← hq]; unfold stepD; rw [if_pos hLATE]
          have hok9 : Ok q.l := hoq
          have hna9 : q.again.length ≤ j + 1 := by exact Nat.le_succ_of_le hna
          have hnl9 : q.lost.length ≤ j + 1 := by exact Nat.le_succ_of_le hnl
          have hln_again : n_again = q.again.length := by exact hn_again
          have hln_lost : n_lost = q.lost.length := by exact hn_lost
          have MFe := MF9
          exact ⟨j + 1, by omega, A_again, c_again, n_again, A_lost, c_lost, n_lost, es9, ck9, q, En.sub hE ⟨rfl, rfl, rfl, rfl, rfl, rfl, rfl, rfl, trivial⟩, by omega, MFe, hq9, hok9, hna9, hnl9, B_g, B_gm, O_q2, Nb_q2_g, Nb_q2_gm, Z_0_q2, NN_q2_again, NN_q2_lost, (by first | exact hln_again | exact hln_lost), O_again, Nb_again_g, Nb_again_gm, Z_0_again, NN_again_q2, NN_again_lost, (by first | exact hln_again | exact hln_lost), O_lost, Nb_lost_g, Nb_lost_gm, Z_0_lost, NN_lost_q2, NN_lost_again, K_0⟩
        ·
          refine c_reg R24_9_l ?_
          refine q0 p24_9_0 hE (st_fieldAddr Try.underlying85 rfl tS3 rfl rfl) ?_
          clear hE a; intro a hE
          refine q0 p24_9_1 hE (st_load1 tA3 rfl ((blk_cell B_g7 0).trans rfl)) ?_
          clear hE a; intro a hE
          refine q0 p24_9_2 hE (st_move rfl) ?_
          clear hE a; intro a hE
          refine q0 p24_9_3 hE (st_gtr (b := false) rfl rfl (decide_eq_false hLATE)) ?_
          clear hE a; intro a hE
          refine q0 p24_9_4 hE (st_assign rfl) ?_
          clear hE a; intro a hE
          refine p_nil ?_
          refine x_norm ?_
          refine c_cond (t := false) hE rfl ?_
          rcases Decidable.em (tr ≤ (at0 q.l s).2) with hOVER | hOVER
          ·
            refine c_drawS (S := fun W => W.heap[g]? = some (.cells #[Value.int .i64 wt, Value.int .i64 tr, Value.map (some gm)] 82 (0, 0)) ∧ W.heap[gm]? = some (.map es9 ck9) ∧ W.heap[g7]? = some (.cells #[Value.int .i64 ((at0 q.l s).1), Value.int .i64 ((at0 q.l s).2)] 85 (0, 0)) ∧ True) rfl rfl (listed := #[false, false, false, false, false, false, false, false]) rfl ?_
            intro w11 hh hk
            replace B_g := kp_blk B_g hk (fun h => h)
            replace B_gm := kp_blk B_gm hk (fun h => h)
            replace B_g7 := kp_blk B_g7 hk (fun h => h)
            replace O_q2 := own_keep O_q2 hk (fun _ _ h => h)
            replace O_again := own_keep O_again hk (fun _ _ h => h)
            replace O_lost := own_keep O_lost hk (fun _ _ h => h)
            replace K_0 := K_0.then_ hk (fun _ h => h.elim)
            clear hh hk
            refine d_take (v := Value.pointer (some ⟨g7, 1, none⟩)) p24_10_0 ns24_10 (by kernel_rfl) (by kernel_rfl) (fun _ _ _ h => h) hE wn_none rfl ⟨B_g, B_gm, B_g7, trivial⟩ (fun W hS => (st_fieldAddr Try.underlying85 rfl tS3 rfl rfl)) rfl ?_
            clear hE a; intro a hE
            refine d_take (v := Value.int .i64 ((at0 q.l s).2)) p24_10_1 ns24_10 (by kernel_rfl) (by kernel_rfl) (fun _ _ _ h => h) hE wn_none rfl ⟨B_g, B_gm, B_g7, trivial⟩ (fun W hS => (st_load1 tA3 rfl ((blk_cell hS.2.2.1 1).trans rfl))) rfl ?_
            clear hE a; intro a hE
            refine d_take (v := Value.pointer (some ⟨g, 0, none⟩)) p24_10_2 ns24_10 (by kernel_rfl) (by kernel_rfl) (fun _ _ _ h => h) hE wn_none rfl ⟨B_g, B_gm, B_g7, trivial⟩ (fun W hS => (st_move rfl)) rfl ?_
            clear hE a; intro a hE
            refine d_take (v := Value.pointer (some ⟨g, 0, none⟩)) p24_10_3 ns24_10 (by kernel_rfl) (by kernel_rfl) (fun _ _ _ h => h) hE wn_none rfl ⟨B_g, B_gm, B_g7, trivial⟩ (fun W hS => (st_nil rfl)) rfl ?_
            clear hE a; intro a hE
            refine d_take (v := Value.pointer (some ⟨g, 1, none⟩)) p24_10_4 ns24_10 (by kernel_rfl) (by kernel_rfl) (fun _ _ _ h => h) hE wn_none rfl ⟨B_g, B_gm, B_g7, trivial⟩ (fun W hS => (st_fieldAddr Try.underlying82 rfl tS3 rfl rfl)) rfl ?_
            clear hE a; intro a hE
            refine d_take (v := Value.int .i64 tr) p24_10_5 ns24_10 (by kernel_rfl) (by kernel_rfl) (fun _ _ _ h => h) hE wn_none rfl ⟨B_g, B_gm, B_g7, trivial⟩ (fun W hS => (st_load1 tA3 rfl ((blk_cell hS.1 1).trans rfl))) rfl ?_
            clear hE a; intro a hE
            refine d_take (v := Value.bool true) p24_10_6 ns24_10 (by kernel_rfl) (by kernel_rfl) (fun _ _ _ h => h) hE wn_none rfl ⟨B_g, B_gm, B_g7, trivial⟩ (fun W hS => (st_geq (b := true) rfl rfl (decide_eq_true hOVER))) rfl ?_
            clear hE a; intro a hE
            refine d_take (v := Value.bool true) p24_10_7 ns24_10 (by kernel_rfl) (by kernel_rfl) (fun _ _ _ h => h) hE wn_none rfl ⟨B_g, B_gm, B_g7, trivial⟩ (fun W hS => (st_assign rfl)) rfl ?_
            clear hE a; intro a hE
            refine d_end (by kernel_rfl) ?_
            refine x_norm ?_
            refine c_cond (t := true) hE rfl ?_
            refine c_reg R24_11_l ?_
            refine q0 p24_11_0 hE (st_move rfl) ?_
            clear hE a; intro a hE
            refine q0 p24_11_1 hE (st_move rfl) ?_
            clear hE a; intro a hE
            refine p_cons (s_row (xs := [(0, Operand.tmp 58)]) (vs := [(0, Value.int .i64 s)]) (cs := #[Value.int .i64 s]) p24_11_2 hE wn_none rfl Try.underlying35 rfl (by kernel_rfl) ?_)
            clear hE a; intro g12 w13 z14 B_g12 hk a hE
            have n_g_g12 : g ≠ g12 := ne_new B_g z14
            have n_gm_g12 : gm ≠ g12 := ne_new B_gm z14
            have n_g7_g12 : g7 ≠ g12 := ne_new B_g7 z14
            have z_0_g12 := Nat.le_trans K_0.kept.1 z14
            have Nb_q2_g12 : ¬ OB A3 g12 := fun h => by have := (own_ob O_q2 h).2; omega
            have Nb_again_g12 : ¬ OB A_again g12 := fun h => by have := (own_ob O_again h).2; omega
            have Nb_lost_g12 : ¬ OB A_lost g12 := fun h => by have := (own_ob O_lost h).2; omega
            replace B_g := kp_blk B_g hk (fun h => h)
            replace B_gm := kp_blk B_gm hk (fun h => h)
            replace B_g7 := kp_blk B_g7 hk (fun h => h)
            replace O_q2 := own_keep O_q2 hk (fun _ _ h => h)
            replace O_again := own_keep O_again hk (fun _ _ h => h)
            replace O_lost := own_keep O_lost hk (fun _ _ h => h)
            replace K_0 := K_0.then_ hk (fun _ h => h.elim)
            clear hk
            refine p_cons (s_appendC (xs := q.lost) (ys := [s]) p24_11_3 hE wn_none rfl Try.underlying35 eD3 rfl O_lost rfl (C_blk (k := .i64) (l := [s]) (off := 0) B_g12 ⟨rfl, Nat.le_of_ble_eq_true rfl⟩ rfl) (by omega) (by omega) K_0.kept.1 ?_)
            clear hE a; intro Alost15 clost16 w17 O_lost' hk hat a hE
            have Nb_lost_g' := grow_n Nb_lost_g (blk_lt B_g) hat
            have Nb_lost_gm' := grow_n Nb_lost_gm (blk_lt B_gm) hat
            have Nb_lost_g7' := grow_n Nb_lost_g7 (blk_lt B_g7) hat
            have Nb_lost_g12' := grow_n Nb_lost_g12 (blk_lt B_g12) hat
            have NN_q2_lost' : ∀ k, OB A3 k → ¬ OB Alost15 k := fun k h h2 => (hat k h2).elim (NN_q2_lost k h) (fun h3 => by have := (own_ob O_q2 h).2; omega)
            have NN_again_lost' : ∀ k, OB A_again k → ¬ OB Alost15 k := fun k h h2 => (hat k h2).elim (NN_again_lost k h) (fun h3 => by have := (own_ob O_again h).2; omega)
            have Z_0_lost' := grow_z Z_0_lost K_0.kept.1 hat
            replace B_g := kp_blk B_g hk Nb_lost_g
            replace B_gm := kp_blk B_gm hk Nb_lost_gm
            replace B_g7 := kp_blk B_g7 hk Nb_lost_g7
            replace B_g12 := kp_blk B_g12 hk Nb_lost_g12
            replace O_q2 := own_keep O_q2 hk NN_q2_lost
            replace O_again := own_keep O_again hk NN_again_lost
            replace K_0 := K_0.then_ hk Z_0_lost
            replace Nb_lost_g := Nb_lost_g'
            replace Nb_lost_gm := Nb_lost_gm'
            replace Nb_lost_g7 := Nb_lost_g7'
            replace Nb_lost_g12 := Nb_lost_g12'
            replace NN_q2_lost := NN_q2_lost'
            replace NN_lost_q2 : ∀ k, OB Alost15 k → ¬ OB A3 k := fun k h h2 => NN_q2_lost k h2 h
            replace NN_again_lost := NN_again_lost'
            replace NN_lost_again : ∀ k, OB Alost15 k → ¬ OB A_again k := fun k h h2 => NN_again_lost k h2 h
            replace Z_0_lost := Z_0_lost'
            replace O_lost : w17.ownsRow _ 3 1 (.slice Alost15 (n_lost + 1) clost16) (n_lost + 1) (encs (Value.int .i64) (q.lost ++ [s])) := O_lost'
            clear O_lost' hk hat
            refine q0 p24_11_4 hE (st_assign rfl) ?_
            clear hE a; intro a hE
            refine p_nil ?_
            refine x_norm ?_
            refine c_regL R24_12_l ?_
            refine q0 p24_12_0 hE (st_move rfl) ?_
            clear hE a; intro a hE
            refine q0 p24_12_1 hE (st_nil rfl) ?_
            clear hE a; intro a hE
            refine q0 p24_12_2 hE (st_fieldAddr Try.underlying82 rfl tS80 rfl rfl) ?_
            clear hE a; intro a hE
            refine q0 p24_12_3 hE (st_load1 tA80 rfl ((blk_cell B_g 2).trans rfl)) ?_
            clear hE a; intro a hE
            refine q0 p24_12_4 hE (st_move rfl) ?_
            clear hE a; intro a hE
            refine p_cons (Mi.s_delI p24_12_5 hE wn_none Try.underlying80 Try.underlying3 rfl rfl MF9 B_gm ?_)
            intro esm19 ckm19 w18 MF_m19 B_gm' hk
            replace B_g := kp_blk B_g hk n_g_gm
            replace B_g7 := kp_blk B_g7 hk (Ne.symm n_gm_g7)
            replace B_g12 := kp_blk B_g12 hk (Ne.symm n_gm_g12)
            replace O_q2 := own_keep O_q2 hk (fun k hk2 h2 => Nb_q2_gm (by rw [show k = gm from h2] at hk2; exact hk2))
            replace O_again := own_keep O_again hk (fun k hk2 h2 => Nb_again_gm (by rw [show k = gm from h2] at hk2; exact hk2))
            replace O_lost := own_keep O_lost hk (fun k hk2 h2 => Nb_lost_gm (by rw [show k = gm from h2] at hk2; exact hk2))
            replace K_0 := K_0.then_ hk (fun k h => by rw [show k = gm from h]; exact Or.inl rfl)
            replace B_gm := B_gm'
            clear hk
            refine p_nil ?_
            refine x_normB ?_
            refine x_normB ?_
            refine x_norm ?_
            refine c_regL R24_13_l ?_
            refine q0 p24_13_0 hE (st_add (z := (j : Int) + 1) rfl rfl (wr_i64 _ (by omega) (by omega))) ?_
            clear hE a; intro a hE
            refine q0 p24_13_1 hE (st_move rfl) ?_
            clear hE a; intro a hE
            refine p_nil ?_
            refine x_norm ?_
            have hq9 : (⟨q.again, q.lost ++ [s], delI q.l s⟩ : St) = ((Ms.ks l).take (j + 1)).foldl (stepD wt tr now) (⟨[], [], l⟩ : St) := by rw [fold_next _ _ hs, ← hq]; unfold stepD; rw [if_neg hLATE, if_pos hOVER]
            have hok9 : Ok (⟨q.again, q.lost ++ [s], delI q.l s⟩ : St).l := ok_del hoq s
            have hna9 : (⟨q.again, q.lost ++ [s], delI q.l s⟩ : St).again.length ≤ j + 1 := by exact Nat.le_succ_of_le hna
            have hnl9 : (⟨q.again, q.lost ++ [s], delI q.l s⟩ : St).lost.length ≤ j + 1 := by show (q.lost ++ [s]).length ≤ _; rw [List.length_append]; show q.lost.length + 1 ≤ _; omega
            have hln_again : n_again = (⟨q.again, q.lost ++ [s], delI q.l s⟩ : St).again.length := by exact hn_again
            have hln_lost : (n_lost + 1) = (⟨q.again, q.lost ++ [s], delI q.l s⟩ : St).lost.length := by show _ = (q.lost ++ [s]).length; rw [List.length_append, ← hn_lost]; rfl
            have MFe := MF_m19
            exact ⟨j + 1, by omega, A_again, c_again, n_again, Alost15, clost16, (n_lost + 1), esm19, ckm19, (⟨q.again, q.lost ++ [s], delI q.l s⟩ : St), En.sub hE ⟨rfl, rfl, rfl, rfl, rfl, rfl, rfl, rfl, trivial⟩, by omega, MFe, hq9, hok9, hna9, hnl9, B_g, B_gm, O_q2, Nb_q2_g, Nb_q2_gm, Z_0_q2, NN_q2_again, NN_q2_lost, (by first | exact hln_again | exact hln_lost), O_again, Nb_again_g, Nb_again_gm, Z_0_again, NN_again_q2, NN_again_lost, (by first | exact hln_again | exact hln_lost), O_lost, Nb_lost_g, Nb_lost_gm, Z_0_lost, NN_lost_q2, NN_lost_again, K_0⟩
          ·
            refine c_drawS (S := fun W => W.heap[g]? = some (.cells #[Value.int .i64 wt, Value.int .i64 tr, Value.map (some gm)] 82 (0, 0)) ∧ W.heap[gm]? = some (.map es9 ck9) ∧ W.heap[g7]? = some (.cells #[Value.int .i64 ((at0 q.l s).1), Value.int .i64 ((at0 q.l s).2)] 85 (0, 0)) ∧ True) rfl rfl (listed := #[false, false, false, false, false, false, false, false]) rfl ?_
            intro w20 hh hk
            replace B_g := kp_blk B_g hk (fun h => h)
            replace B_gm := kp_blk B_gm hk (fun h => h)
            replace B_g7 := kp_blk B_g7 hk (fun h => h)
            replace O_q2 := own_keep O_q2 hk (fun _ _ h => h)
            replace O_again := own_keep O_again hk (fun _ _ h => h)
            replace O_lost := own_keep O_lost hk (fun _ _ h => h)
            replace K_0 := K_0.then_ hk (fun _ h => h.elim)
            clear hh hk
            refine d_take (v := Value.pointer (some ⟨g7, 1, none⟩)) p24_10_0 ns24_10 (by kernel_rfl) (by kernel_rfl) (fun _ _ _ h => h) hE wn_none rfl ⟨B_g, B_gm, B_g7, trivial⟩ (fun W hS => (st_fieldAddr Try.underlying85 rfl tS3 rfl rfl)) rfl ?_
            clear hE a; intro a hE
            refine d_take (v := Value.int .i64 ((at0 q.l s).2)) p24_10_1 ns24_10 (by kernel_rfl) (by kernel_rfl) (fun _ _ _ h => h) hE wn_none rfl ⟨B_g, B_gm, B_g7, trivial⟩ (fun W hS => (st_load1 tA3 rfl ((blk_cell hS.2.2.1 1).trans rfl))) rfl ?_
            clear hE a; intro a hE
            refine d_take (v := Value.pointer (some ⟨g, 0, none⟩)) p24_10_2 ns24_10 (by kernel_rfl) (by kernel_rfl) (fun _ _ _ h => h) hE wn_none rfl ⟨B_g, B_gm, B_g7, trivial⟩ (fun W hS => (st_move rfl)) rfl ?_
            clear hE a; intro a hE
            refine d_take (v := Value.pointer (some ⟨g, 0, none⟩)) p24_10_3 ns24_10 (by kernel_rfl) (by kernel_rfl) (fun _ _ _ h => h) hE wn_none rfl ⟨B_g, B_gm, B_g7, trivial⟩ (fun W hS => (st_nil rfl)) rfl ?_
            clear hE a; intro a hE
            refine d_take (v := Value.pointer (some ⟨g, 1, none⟩)) p24_10_4 ns24_10 (by kernel_rfl) (by kernel_rfl) (fun _ _ _ h => h) hE wn_none rfl ⟨B_g, B_gm, B_g7, trivial⟩ (fun W hS => (st_fieldAddr Try.underlying82 rfl tS3 rfl rfl)) rfl ?_
            clear hE a; intro a hE
            refine d_take (v := Value.int .i64 tr) p24_10_5 ns24_10 (by kernel_rfl) (by kernel_rfl) (fun _ _ _ h => h) hE wn_none rfl ⟨B_g, B_gm, B_g7, trivial⟩ (fun W hS => (st_load1 tA3 rfl ((blk_cell hS.1 1).trans rfl))) rfl ?_
            clear hE a; intro a hE
            refine d_take (v := Value.bool false) p24_10_6 ns24_10 (by kernel_rfl) (by kernel_rfl) (fun _ _ _ h => h) hE wn_none rfl ⟨B_g, B_gm, B_g7, trivial⟩ (fun W hS => (st_geq (b := false) rfl rfl (decide_eq_false hOVER))) rfl ?_
            clear hE a; intro a hE
            refine d_take (v := Value.bool false) p24_10_7 ns24_10 (by kernel_rfl) (by kernel_rfl) (fun _ _ _ h => h) hE wn_none rfl ⟨B_g, B_gm, B_g7, trivial⟩ (fun W hS => (st_assign rfl)) rfl ?_
            clear hE a; intro a hE
            refine d_end (by kernel_rfl) ?_
            refine x_norm ?_
            refine c_cond (t := false) hE rfl ?_
            refine c_reg R24_7_l ?_
            refine q0 p24_7_0 hE (st_move rfl) ?_
            clear hE a; intro a hE
            refine q0 p24_7_1 hE (st_move rfl) ?_
            clear hE a; intro a hE
            refine p_cons (s_row (xs := [(0, Operand.tmp 26)]) (vs := [(0, Value.int .i64 s)]) (cs := #[Value.int .i64 s]) p24_7_2 hE wn_none rfl Try.underlying35 rfl (by kernel_rfl) ?_)
            clear hE a; intro g21 w22 z23 B_g21 hk a hE
            have n_g_g21 : g ≠ g21 := ne_new B_g z23
            have n_gm_g21 : gm ≠ g21 := ne_new B_gm z23
            have n_g7_g21 : g7 ≠ g21 := ne_new B_g7 z23
            have z_0_g21 := Nat.le_trans K_0.kept.1 z23
            have Nb_q2_g21 : ¬ OB A3 g21 := fun h => by have := (own_ob O_q2 h).2; omega
            have Nb_again_g21 : ¬ OB A_again g21 := fun h => by have := (own_ob O_again h).2; omega
            have Nb_lost_g21 : ¬ OB A_lost g21 := fun h => by have := (own_ob O_lost h).2; omega
            replace B_g := kp_blk B_g hk (fun h => h)
            replace B_gm := kp_blk B_gm hk (fun h => h)
            replace B_g7 := kp_blk B_g7 hk (fun h => h)
            replace O_q2 := own_keep O_q2 hk (fun _ _ h => h)
            replace O_again := own_keep O_again hk (fun _ _ h => h)
            replace O_lost := own_keep O_lost hk (fun _ _ h => h)
            replace K_0 := K_0.then_ hk (fun _ h => h.elim)
            clear hk
            refine p_cons (s_appendC (xs := q.again) (ys := [s]) p24_7_3 hE wn_none rfl Try.underlying35 eD3 rfl O_again rfl (C_blk (k := .i64) (l := [s]) (off := 0) B_g21 ⟨rfl, Nat.le_of_ble_eq_true rfl⟩ rfl) (by omega) (by omega) K_0.kept.1 ?_)
            clear hE a; intro Aagain24 cagain25 w26 O_again' hk hat a hE
            have Nb_again_g' := grow_n Nb_again_g (blk_lt B_g) hat
            have Nb_again_gm' := grow_n Nb_again_gm (blk_lt B_gm) hat
            have Nb_again_g7' := grow_n Nb_again_g7 (blk_lt B_g7) hat
            have Nb_again_g21' := grow_n Nb_again_g21 (blk_lt B_g21) hat
            have NN_q2_again' : ∀ k, OB A3 k → ¬ OB Aagain24 k := fun k h h2 => (hat k h2).elim (NN_q2_again k h) (fun h3 => by have := (own_ob O_q2 h).2; omega)
            have NN_lost_again' : ∀ k, OB A_lost k → ¬ OB Aagain24 k := fun k h h2 => (hat k h2).elim (NN_lost_again k h) (fun h3 => by have := (own_ob O_lost h).2; omega)
            have Z_0_again' := grow_z Z_0_again K_0.kept.1 hat
            replace B_g := kp_blk B_g hk Nb_again_g
            replace B_gm := kp_blk B_gm hk Nb_again_gm
            replace B_g7 := kp_blk B_g7 hk Nb_again_g7
            replace B_g21 := kp_blk B_g21 hk Nb_again_g21
            replace O_q2 := own_keep O_q2 hk NN_q2_again
            replace O_lost := own_keep O_lost hk NN_lost_again
            replace K_0 := K_0.then_ hk Z_0_again
            replace Nb_again_g := Nb_again_g'
            replace Nb_again_gm := Nb_again_gm'
            replace Nb_again_g7 := Nb_again_g7'
            replace Nb_again_g21 := Nb_again_g21'
            replace NN_q2_again := NN_q2_again'
            replace NN_again_q2 : ∀ k, OB Aagain24 k → ¬ OB A3 k := fun k h h2 => NN_q2_again k h2 h
            replace NN_lost_again := NN_lost_again'
            replace NN_again_lost : ∀ k, OB Aagain24 k → ¬ OB A_lost k := fun k h h2 => NN_lost_again k h2 h
            replace Z_0_again := Z_0_again'
            replace O_again : w26.ownsRow _ 3 1 (.slice Aagain24 (n_again + 1) cagain25) (n_again + 1) (encs (Value.int .i64) (q.again ++ [s])) := O_again'
            clear O_again' hk hat
            refine q0 p24_7_4 hE (st_assign rfl) ?_
            clear hE a; intro a hE
            refine p_nil ?_
            refine x_norm ?_
            refine c_draw (S := fun W => W.heap[g]? = some (.cells #[Value.int .i64 wt, Value.int .i64 tr, Value.map (some gm)] 82 (0, 0)) ∧ W.heap[g7]? = some (.cells #[Value.int .i64 ((at0 q.l s).1), Value.int .i64 ((at0 q.l s).2)] 85 (0, 0)) ∧ True) rfl rfl (listed := #[false, false, false, false, false, false, false, false, false, false, false, false, false, false, false, false]) rfl ?_
            intro w27 hh hk
            replace B_g := kp_blk B_g hk (fun h => h)
            replace B_gm := kp_blk B_gm hk (fun h => h)
            replace B_g7 := kp_blk B_g7 hk (fun h => h)
            replace B_g21 := kp_blk B_g21 hk (fun h => h)
            replace O_q2 := own_keep O_q2 hk (fun _ _ h => h)
            replace O_again := own_keep O_again hk (fun _ _ h => h)
            replace O_lost := own_keep O_lost hk (fun _ _ h => h)
            replace K_0 := K_0.then_ hk (fun _ h => h.elim)
            clear hh hk
            refine d_take (v := Value.pointer (some ⟨g, 0, none⟩)) p24_8_0 ns24_8 (by kernel_rfl) (by kernel_rfl) (fun _ _ _ h => h) hE wn_none rfl ⟨B_g, B_g7, trivial⟩ (fun W hS => (st_move rfl)) rfl ?_
            clear hE a; intro a hE
            refine d_take (v := Value.pointer (some ⟨g, 0, none⟩)) p24_8_1 ns24_8 (by kernel_rfl) (by kernel_rfl) (fun _ _ _ h => h) hE wn_none rfl ⟨B_g, B_g7, trivial⟩ (fun W hS => (st_nil rfl)) rfl ?_
            clear hE a; intro a hE
            refine d_take (v := Value.pointer (some ⟨g, 2, none⟩)) p24_8_2 ns24_8 (by kernel_rfl) (by kernel_rfl) (fun _ _ _ h => h) hE wn_none rfl ⟨B_g, B_g7, trivial⟩ (fun W hS => (st_fieldAddr Try.underlying82 rfl tS80 rfl rfl)) rfl ?_
            clear hE a; intro a hE
            refine d_take (v := Value.map (some gm)) p24_8_3 ns24_8 (by kernel_rfl) (by kernel_rfl) (fun _ _ _ h => h) hE wn_none rfl ⟨B_g, B_g7, trivial⟩ (fun W hS => (st_load1 tA80 rfl ((blk_cell hS.1 2).trans rfl))) rfl ?_
            clear hE a; intro a hE
            refine d_take (v := Value.int .i64 s) p24_8_4 ns24_8 (by kernel_rfl) (by kernel_rfl) (fun _ _ _ h => h) hE wn_none rfl ⟨B_g, B_g7, trivial⟩ (fun W hS => (st_move rfl)) rfl ?_
            clear hE a; intro a hE
            refine d_take (v := Value.int .i64 now) p24_8_5 ns24_8 (by kernel_rfl) (by kernel_rfl) (fun _ _ _ h => h) hE wn_none rfl ⟨B_g, B_g7, trivial⟩ (fun W hS => (st_move rfl)) rfl ?_
            clear hE a; intro a hE
            refine d_take (v := Value.pointer (some ⟨g, 0, none⟩)) p24_8_6 ns24_8 (by kernel_rfl) (by kernel_rfl) (fun _ _ _ h => h) hE wn_none rfl ⟨B_g, B_g7, trivial⟩ (fun W hS => (st_move rfl)) rfl ?_
            clear hE a; intro a hE
            refine d_take (v := Value.pointer (some ⟨g, 0, none⟩)) p24_8_7 ns24_8 (by kernel_rfl) (by kernel_rfl) (fun _ _ _ h => h) hE wn_none rfl ⟨B_g, B_g7, trivial⟩ (fun W hS => (st_nil rfl)) rfl ?_
            clear hE a; intro a hE
            refine d_take (v := Value.pointer (some ⟨g, 0, none⟩)) p24_8_8 ns24_8 (by kernel_rfl) (by kernel_rfl) (fun _ _ _ h => h) hE wn_none rfl ⟨B_g, B_g7, trivial⟩ (fun W hS => (st_fieldAddr Try.underlying82 rfl tS3 rfl rfl)) rfl ?_
            clear hE a; intro a hE
            refine d_take (v := Value.int .i64 wt) p24_8_9 ns24_8 (by kernel_rfl) (by kernel_rfl) (fun _ _ _ h => h) hE wn_none rfl ⟨B_g, B_g7, trivial⟩ (fun W hS => (st_load1 tA3 rfl ((blk_cell hS.1 0).trans rfl))) rfl ?_
            clear hE a; intro a hE
            refine d_take (v := Value.int .i64 (now + wt)) p24_8_10 ns24_8 (by kernel_rfl) (by kernel_rfl) (fun _ _ _ h => h) hE wn_none rfl ⟨B_g, B_g7, trivial⟩ (fun W hS => (st_add (z := now + wt) rfl rfl (wr_i64 _ (by omega) (by omega)))) rfl ?_
            clear hE a; intro a hE
            refine d_take (v := Value.pointer (some ⟨g7, 1, none⟩)) p24_8_11 ns24_8 (by kernel_rfl) (by kernel_rfl) (fun _ _ _ h => h) hE wn_none rfl ⟨B_g, B_g7, trivial⟩ (fun W hS => (st_fieldAddr Try.underlying85 rfl tS3 rfl rfl)) rfl ?_
            clear hE a; intro a hE
            refine d_take (v := Value.int .i64 ((at0 q.l s).2)) p24_8_12 ns24_8 (by kernel_rfl) (by kernel_rfl) (fun _ _ _ h => h) hE wn_none rfl ⟨B_g, B_g7, trivial⟩ (fun W hS => (st_load1 tA3 rfl ((blk_cell hS.2.1 1).trans rfl))) rfl ?_
            clear hE a; intro a hE
            refine d_take (v := Value.int .i64 (((at0 q.l s).2) + 1)) p24_8_13 ns24_8 (by kernel_rfl) (by kernel_rfl) (fun _ _ _ h => h) hE wn_none rfl ⟨B_g, B_g7, trivial⟩ (fun W hS => (st_add (z := ((at0 q.l s).2) + 1) rfl rfl (wr_i64 _ (by omega) (by omega)))) rfl ?_
            clear hE a; intro a hE
            refine d_take (v := Value.agg #[Value.int .i64 (now + wt), Value.int .i64 (((at0 q.l s).2) + 1)]) p24_8_14 ns24_8 (by kernel_rfl) (by kernel_rfl) (fun _ _ _ h => h) hE wn_none rfl ⟨B_g, B_g7, trivial⟩ (fun W hS => (st_build (xs := [(0, Operand.tmp 39), (1, Operand.tmp 42)]) (vs := [(0, Value.int .i64 (now + wt)), (1, Value.int .i64 (((at0 q.l s).2) + 1))]) (cs := #[Value.int .i64 (now + wt), Value.int .i64 (((at0 q.l s).2) + 1)]) rfl (by kernel_rfl))) rfl ?_
            clear hE a; intro a hE
            refine d_one (by kernel_rfl) rfl (Mi.s_putI (u := (now + wt, ((at0 q.l s).2) + 1)) p24_8_15 hE wn_none Try.underlying80 Try.underlying3 rfl rfl rfl rfl (wf64 (by omega) (by omega)) MF9 B_gm ?_)
            intro esm29 ckm29 w28 MF_m29 B_gm' hk
            replace B_g := kp_blk B_g hk n_g_gm
            replace B_g7 := kp_blk B_g7 hk (Ne.symm n_gm_g7)
            replace B_g21 := kp_blk B_g21 hk (Ne.symm n_gm_g21)
            replace O_q2 := own_keep O_q2 hk (fun k hk2 h2 => Nb_q2_gm (by rw [show k = gm from h2] at hk2; exact hk2))
            replace O_again := own_keep O_again hk (fun k hk2 h2 => Nb_again_gm (by rw [show k = gm from h2] at hk2; exact hk2))
            replace O_lost := own_keep O_lost hk (fun k hk2 h2 => Nb_lost_gm (by rw [show k = gm from h2] at hk2; exact hk2))
            replace K_0 := K_0.then_ hk (fun k h => by rw [show k = gm from h]; exact Or.inl rfl)
            replace B_gm := B_gm'
            clear hk
            refine ⟨⟨B_g, B_g7, trivial⟩, ?_⟩
            refine d_end (by kernel_rfl) ?_
            refine x_normB ?_
            refine x_normB ?_
            refine x_norm ?_
            refine c_regL R24_13_l ?_
            refine q0 p24_13_0 hE (st_add (z := (j : Int) + 1) rfl rfl (wr_i64 _ (by omega) (by omega))) ?_
            clear hE a; intro a hE
            refine q0 p24_13_1 hE (st_move rfl) ?_
            clear hE a; intro a hE
            refine p_nil ?_
            refine x_norm ?_
            have hq9 : (⟨q.again ++ [s], q.lost, putI q.l s (now + wt, (at0 q.l s).2 + 1)⟩ : St) = ((Ms.ks l).take (j + 1)).foldl (stepD wt tr now) (⟨[], [], l⟩ : St) := by rw [fold_next _ _ hs, ← hq]; unfold stepD; rw [if_neg hLATE, if_neg hOVER]
            have hok9 : Ok (⟨q.again ++ [s], q.lost, putI q.l s (now + wt, (at0 q.l s).2 + 1)⟩ : St).l := ok_put MF9.nodup hoq hsr ⟨⟨by omega, by omega⟩, by omega, by omega⟩
            have hna9 : (⟨q.again ++ [s], q.lost, putI q.l s (now + wt, (at0 q.l s).2 + 1)⟩ : St).again.length ≤ j + 1 := by show (q.again ++ [s]).length ≤ _; rw [List.length_append]; show q.again.length + 1 ≤ _; omega
            have hnl9 : (⟨q.again ++ [s], q.lost, putI q.l s (now + wt, (at0 q.l s).2 + 1)⟩ : St).lost.length ≤ j + 1 := by exact Nat.le_succ_of_le hnl
            have hln_again : (n_again + 1) = (⟨q.again ++ [s], q.lost, putI q.l s (now + wt, (at0 q.l s).2 + 1)⟩ : St).again.length := by show _ = (q.again ++ [s]).length; rw [List.length_append, ← hn_again]; rfl
            have hln_lost : n_lost = (⟨q.again ++ [s], q.lost, putI q.l s (now + wt, (at0 q.l s).2 + 1)⟩ : St).lost.length := by exact hn_lost
            have MFe := MF_m29
            exact ⟨j + 1, by omega, Aagain24, cagain25, (n_again + 1), A_lost, c_lost, n_lost, esm29, ckm29, (⟨q.again ++ [s], q.lost, putI q.l s (now + wt, (at0 q.l s).2 + 1)⟩ : St), En.sub hE ⟨rfl, rfl, rfl, rfl, rfl, rfl, rfl, rfl, trivial⟩, by omega, MFe, hq9, hok9, hna9, hnl9, B_g, B_gm, O_q2, Nb_q2_g, Nb_q2_gm, Z_0_q2, NN_q2_again, NN_q2_lost, (by first | exact hln_again | exact hln_lost), O_again, Nb_again_g, Nb_again_gm, Z_0_again, NN_again_q2, NN_again_lost, (by first | exact hln_again | exact hln_lost), O_lost, Nb_lost_g, Nb_lost_gm, Z_0_lost, NN_lost_q2, NN_lost_again, K_0⟩
      ·
        refine c_reg R24_4_l ?_
        refine q0 p24_4_0 hE (st_lss (b := false) rfl rfl (decide_eq_false hK1)) ?_
        clear hE a; intro a hE
        refine p_nil ?_
        refine x_norm ?_
        refine wp_seq ?_
        refine c_cond (t := false) hE rfl ?_
        refine wp_exit ?_
        refine x_exit ?_
        refine x_exit ?_
        obtain rfl : j = l.length := by omega
        have hq8 : q = (dueS wt tr now l) := by rw [hq]; unfold dueS; rw [hTM, if_pos rfl, List.take_of_length_le (Nat.le_of_eq (Ms.ks_len l))]
        refine x_in ?_
        refine x_norm ?_
        refine c_reg R24_14_l ?_
        refine q0 p24_14_0 hE (st_move rfl) ?_
        clear hE a; intro a hE
        refine q0 p24_14_1 hE (st_move rfl) ?_
        clear hE a; intro a hE
        refine q0 p24_14_2 hE (st_assign rfl) ?_
        clear hE a; intro a hE
        refine q0 p24_14_3 hE (st_assign rfl) ?_
        clear hE a; intro a hE
        refine p_nil ?_
        refine x_norm ?_
        refine wp_ret ?_
        refine ret_list (rs := [.tmp 4, .tmp 5]) (vs := [Value.slice A_again n_again c_again, Value.slice A_lost n_lost c_lost]) rfl hE (.tmp rfl (.tmp rfl .nil)) rfl ?_
        subst hq8
        have e1 : n_again = (dueS wt tr now l).again.length := hn_again
        have e2 : n_lost = (dueS wt tr now l).lost.length := hn_lost
        rw [e1] at O_again
        rw [e2] at O_lost
        exact ⟨A_again, c_again, A_lost, c_lost, es9, ck9, by rw [e1, e2], O_again, O_lost, NN_again_lost, MF9, hoq, B_gm, K_0⟩
  ·
    refine c_reg R24_1_l ?_
    refine q0 p24_1_0 hE (st_move rfl) ?_
    clear hE a; intro a hE
    refine p_cons (s_call (xs := [Operand.tmp 9]) (args := [Value.int .i64 now]) p24_1_1 hE wn_none rfl rfl Try.func41 cl41 (time_any now false (by simpa using hTM) _) ?_)
    rintro e w30 ⟨rfl, hk⟩
    replace B_g := kp_blk B_g hk (fun h => h)
    replace B_gm := kp_blk B_gm hk (fun h => h)
    replace K_0 := K_0.then_ hk (fun _ h => h.elim)
    refine ⟨_, rfl, ?_⟩
    clear hE a; intro a hE
    refine q0 p24_1_2 hE (st_not rfl rfl) ?_
    clear hE a; intro a hE
    refine p_nil ?_
    refine x_norm ?_
    refine c_cond (t := true) hE rfl ?_
    refine c_reg R24_2_l ?_
    refine q0 p24_2_0 hE (st_assign rfl) ?_
    clear hE a; intro a hE
    refine q0 p24_2_1 hE (st_assign rfl) ?_
    clear hE a; intro a hE
    refine p_nil ?_
    refine x_norm ?_
    refine wp_ret ?_
    refine x_ret ?_
    refine ret_list (rs := [.tmp 4, .tmp 5]) (vs := [Value.slice none 0 0, Value.slice none 0 0]) rfl hE (.tmp rfl (.tmp rfl .nil)) rfl ?_
    have e0 : (dueS wt tr now l) = (⟨[], [], l⟩ : St) := by unfold dueS; rw [show timeB now = false by simpa using hTM]; rfl
    rw [e0]
    exact ⟨none, 0, none, 0, es, ck, rfl, own_none _ _ _ _, own_none _ _ _ _, fun k h => absurd h ob_nil, hF, hok, B_gm, K_0⟩
end Go.Proofs.Ytlmjbmeigclihaa.Up
