/- Layer 21: the program's table and the document's; Check, Next, To. -/
import Derived.Test.YtnmlckaeheiodaaDoorRtf
set_option maxRecDepth 100000
set_option linter.unusedVariables false
set_option linter.unusedSimpArgs false
namespace Go.Proofs.YtnmlckaeheiodaaDoor.Rg
open Go.RowKit Go.Proofs.YtnmlckaeheiodaaDoorW.PrintWords Go.Proofs.YtnmlckaeheiodaaDoor.Ds Go.Proofs.YtnmlckaeheiodaaDoor.Lol Go.Proofs.YtnmlckaeheiodaaDoor.Ra Go.Proofs.YtnmlckaeheiodaaDoor.Rd19
open Go.Proofs.YtnmlckaeheiodaaDoor.Pk (Kp)
open Go.Proofs.YtnmlckaeheiodaaDoor.Mi (st_eqlP x_retS MapI getI putI)
/-- The two tables tell the same. -/
structure Rel (l : List (Int × R4)) (L : List R4) : Prop where
  get : ∀ n, getI l n = getR L n
  len : l.length = L.length
  ok : ∀ o ∈ L, okR o = true
theorem rel_nil : Rel [] [] := ⟨fun _ => rfl, rfl, fun _ h => absurd h List.not_mem_nil⟩
theorem getR_mem : ∀ {L : List R4} {n : Int} {o : R4}, getR L n = some o → o ∈ L ∧ o.1 = n
  | [], _, _, h => by cases h
  | a :: L, n, o, h => by
    unfold getR at h
    split at h
    · rename_i ha
      injection h with h
      subst h
      exact ⟨List.mem_cons_self .., ha⟩
    · have := getR_mem h
      exact ⟨List.mem_cons_of_mem _ this.1, this.2⟩
theorem getR_ins : ∀ (L : List R4) (r : R4) (n : Int), getR L r.1 = none → getR (insR L r) n = if r.1 = n then some r else getR L n
  | [], r, n, _ => by unfold insR getR; rfl
  | a :: L, r, n, h => by
    unfold getR at h
    split at h
    · cases h
    · rename_i ha
      unfold insR
      split
      · show (if a.1 = n then some a else getR (insR L r) n) = if r.1 = n then some r else (if a.1 = n then some a else getR L n)
        rw [getR_ins L r n h]
        by_cases h1 : a.1 = n
        · rw [if_pos h1, if_neg (fun e => ha (h1.trans e.symm)), if_pos h1]
        · rw [if_neg h1, if_neg h1]
      · rfl
theorem getR_rep : ∀ (L : List R4) (r o : R4) (n : Int), getR L r.1 = some o → getR (repR L r) n = if r.1 = n then some r else getR L n
  | [], _, _, _, h => by cases h
  | a :: L, r, o, n, h => by
    unfold getR at h
    unfold repR
    by_cases ha : a.1 = r.1
    · rw [if_pos ha]
      show (if r.1 = n then some r else getR L n) = if r.1 = n then some r else (if a.1 = n then some a else getR L n)
      by_cases h1 : r.1 = n
      · rw [if_pos h1, if_pos h1]
      · rw [if_neg h1, if_neg h1, if_neg (fun e => h1 (ha.symm.trans e))]
    · rw [if_neg ha] at h
      rw [if_neg ha]
      show (if a.1 = n then some a else getR (repR L r) n) = if r.1 = n then some r else (if a.1 = n then some a else getR L n)
      rw [getR_rep L r o n h]
      by_cases h1 : a.1 = n
      · rw [if_pos h1, if_neg (fun e => ha (h1.trans e.symm)), if_pos h1]
      · rw [if_neg h1, if_neg h1]
theorem ins_len (L : List R4) (r : R4) : (insR L r).length = L.length + 1 := by
  induction L with
  | nil => rfl
  | cons a L ih => unfold insR; split <;> simp [ih]
theorem rep_len (L : List R4) (r : R4) : (repR L r).length = L.length := by
  induction L with
  | nil => rfl
  | cons a L ih => unfold repR; split <;> simp [ih]
theorem ins_mem {L : List R4} {r x : R4} (h : x ∈ insR L r) : x = r ∨ x ∈ L := by
  induction L with
  | nil => exact .inl (List.mem_singleton.1 h)
  | cons a L ih =>
    unfold insR at h
    split at h
    · rcases List.mem_cons.1 h with rfl | h
      · exact .inr (List.mem_cons_self ..)
      · exact (ih h).imp id (List.mem_cons_of_mem _)
    · rcases List.mem_cons.1 h with rfl | h
      · exact .inl rfl
      · exact .inr h
theorem rep_mem {L : List R4} {r x : R4} (h : x ∈ repR L r) : x = r ∨ x ∈ L := by
  induction L with
  | nil => cases h
  | cons a L ih =>
    unfold repR at h
    split at h
    · rcases List.mem_cons.1 h with rfl | h
      · exact .inl rfl
      · exact .inr (List.mem_cons_of_mem _ h)
    · rcases List.mem_cons.1 h with rfl | h
      · exact .inr (List.mem_cons_self ..)
      · exact (ih h).imp id (List.mem_cons_of_mem _)
theorem learn_len (L : List R4) (r : R4) : (learnR L r).length ≤ L.length + 1 := by
  unfold learnR
  split
  · split
    · rw [ins_len]; exact Nat.le_refl _
    · split
      · rw [rep_len]; exact Nat.le_succ _
      · exact Nat.le_succ _
  · exact Nat.le_succ _
theorem Rel.learn {l : List (Int × R4)} {L : List R4} (h : Rel l L) (r : R4) : Rel (learnL l r) (learnR L r) := by
  unfold learnL learnR
  by_cases hr : okR r = true
  · rw [if_pos hr, if_pos hr, h.get]
    cases hg : getR L r.1 with
    | none =>
      refine ⟨fun n => ?_, ?_, fun o ho => (ins_mem ho).elim (fun e => e ▸ hr) (h.ok o)⟩
      · show getI (putI l r.1 r) n = getR (insR L r) n
        rw [Mi.getI_put, getR_ins L r n hg, h.get]
        by_cases e : n = r.1
        · rw [if_pos e, if_pos e.symm]
        · rw [if_neg e, if_neg (fun q => e q.symm)]
      · show (putI l r.1 r).length = (insR L r).length
        rw [Mi.putI_len, ins_len, h.get, hg, ← h.len]; rfl
    | some o =>
      show Rel (if freshB r o = true then putI l r.1 r else l) (if freshB r o = true then repR L r else L)
      split
      · refine ⟨fun n => ?_, ?_, fun o ho => (rep_mem ho).elim (fun e => e ▸ hr) (h.ok o)⟩
        · rw [Mi.getI_put, getR_rep L r o n hg, h.get]
          by_cases e : n = r.1
          · rw [if_pos e, if_pos e.symm]
          · rw [if_neg e, if_neg (fun q => e q.symm)]
        · rw [Mi.putI_len, rep_len, h.get, hg, ← h.len]; rfl
      · exact h
  · rw [if_neg hr, if_neg hr]; exact h
def allL (ls : List R4) : List (Int × R4) := (ls.take 10).foldl learnL []
def allR (ls : List R4) : List R4 := (ls.take 10).foldl learnR []
theorem rel_fold (ls : List R4) : ∀ {l : List (Int × R4)} {L : List R4}, Rel l L → Rel (ls.foldl learnL l) (ls.foldl learnR L) := by
  induction ls with
  | nil => exact fun h => h
  | cons a ls ih => exact fun h => ih (h.learn a)
theorem rel_all (ls : List R4) : Rel (allL ls) (allR ls) := rel_fold _ rel_nil
theorem fold_next {α β : Type} (f : β → α → β) (a : β) {l : List α} {j : Nat} {s : α} (h : l[j]? = some s) : (l.take (j + 1)).foldl f a = f ((l.take j).foldl f a) s := by
  rw [List.take_add_one, h, List.foldl_append]
  rfl
theorem Rel.okl {l : List (Int × R4)} {L : List R4} (h : Rel l L) {x : Int} {o : R4} (ho : getI l x = some o) : okR o = true := h.ok o (getR_mem (by rw [← h.get]; exact ho)).1
/-- The neighbour that a table tells; below 0: none. -/
def viaL (l : List (Int × R4)) (n : Int) : Int := match getI l n with | none => -1 | some o => o.2.1
theorem Rel.via {l : List (Int × R4)} {L : List R4} (h : Rel l L) (n : Int) : viaL l n = viaR L n := by unfold viaL viaR; rw [h.get]; cases getR L n <;> rfl
theorem via_ge {L : List R4} (h : ∀ o ∈ L, okR o = true) (n : Int) : -1 ≤ viaR L n := by
  unfold viaR
  cases hg : getR L n with
  | none => exact Int.le_refl _
  | some o => have := okR_b (h o (getR_mem hg).1); show -1 ≤ o.2.1; omega
def perB (n : Int) : Bool := decide (n = -1) || nodeB n
def rightV (nd pf : Int) : Bool := nodeB nd && perB pf && !decide (pf = nd)
theorem per_b {n : Int} (h : perB n = true) : n = -1 ∨ 0 ≤ n ∧ n < 64 := by
  unfold perB nodeB at h
  simpa using h
theorem right_b {nd pf : Int} (h : rightV nd pf = true) : (0 ≤ nd ∧ nd < 64) ∧ (pf = -1 ∨ 0 ≤ pf ∧ pf < 64) := by
  unfold rightV at h
  simp only [Bool.and_eq_true] at h
  exact ⟨by have := h.1.1; unfold nodeB at this; simpa using this, per_b h.1.2⟩
/-- Where a datagram goes next: kind, next, down, error. -/
def nextF (nd pf : Int) (rt : Bool) (v tg fr : Int) (dn : Bool) : Int × Int × Bool × Int :=
  if (rightV nd pf && nodeB tg && perB fr) = true then
    if tg = nd then (0, -1, false, 0) else if 0 ≤ v then (1, v, true, 0)
    else if (dn && !decide (fr = -1)) = true then (3, fr, true, 0) else if (rt || decide (pf = -1)) = true then (4, -1, false, 0) else (2, pf, false, 0)
  else (0, 0, false, 1)
def hopV (h : Int × Int × Bool × Int) : Value := .tuple #[.agg #[.int .i64 h.1, .int .i64 h.2.1, .bool h.2.2.1], .int .i64 h.2.2.2]
theorem R19_0_l : List.range (regOf Tryd.f19 0).size = [0] := by kernel_rfl
theorem R19_1_l : List.range (regOf Tryd.f19 1).size = [0, 1, 2, 3, 4, 5, 6] := by kernel_rfl
theorem body19 : Tryd.f19.body = some (.seq (.region 0 (regOf Tryd.f19 0) false) (.seq (.region 1 (regOf Tryd.f19 1) false) (.ret))) := by kernel_rfl
theorem p19_0_0 : pj (regOf Tryd.f19 0) 0 = some (some 2, .assign (.const (.bool false)), 4, none) := by kernel_rfl
theorem p19_1_0 : pj (regOf Tryd.f19 1) 0 = some (some 3, .move (.tmp 0), 3, none) := by kernel_rfl
theorem p19_1_1 : pj (regOf Tryd.f19 1) 1 = some (some 4, .binOp .geq 3 (.tmp 3) (.const (.int .i64 0)) 3, 4, none) := by kernel_rfl
theorem p19_1_2 : pj (regOf Tryd.f19 1) 2 = some (some 5, .move (.tmp 4), 4, none) := by kernel_rfl
theorem p19_1_3 : pj (regOf Tryd.f19 1) 3 = some (some 6, .move (.tmp 0), 3, some (2, true)) := by kernel_rfl
theorem g19_1_2 : dstOf (regOf Tryd.f19 1) 2 = some 5 := by kernel_rfl
theorem p19_1_4 : pj (regOf Tryd.f19 1) 4 = some (some 7, .binOp .lss 3 (.tmp 6) (.const (.int .i64 64)) 3, 4, some (2, true)) := by kernel_rfl
theorem p19_1_5 : pj (regOf Tryd.f19 1) 5 = some (some 8, .pick (.tmp 5) (.tmp 7) (.const (.bool false)), 4, none) := by kernel_rfl
theorem p19_1_6 : pj (regOf Tryd.f19 1) 6 = some (some 2, .assign (.tmp 8), 4, none) := by kernel_rfl
set_option maxHeartbeats 4000000 in
theorem pnode (n : Int) (w : World) : Calls Tryd.prog 19 #[.int .i64 n] w fun e w' => e = .returned (.bool (nodeB n)) ∧ Kp w w' (fun _ => False) := by
  have K_0 := Kp.refl w (fun _ => False)
  refine enter (args := [Value.int .i64 n]) (n := 9) Tryd.func19 body19 rfl rfl rfl ?_
  intro a hE
  refine c_reg R19_0_l ?_
  refine q0 p19_0_0 hE (st_assign rfl) ?_
  clear hE a; intro a hE
  refine p_nil ?_
  refine x_norm ?_
  refine c_reg R19_1_l ?_
  refine q0 p19_1_0 hE (st_move rfl) ?_
  clear hE a; intro a hE
  rcases Decidable.em (0 ≤ n) with hc1 | hc1
  ·
    refine p_cons (s_still (v := Value.bool true) p19_1_1 hE wn_none rfl (st_geq rfl rfl (decide_eq_true hc1)) ?_)
    clear hE a; intro a hE
    refine q0 p19_1_2 hE (st_move rfl) ?_
    clear hE a; intro a hE
    refine p_cons (s_still p19_1_3 hE (wn_some g19_1_2 rfl rfl) rfl (st_move rfl) ?_)
    clear hE a; intro a hE
    rcases Decidable.em (n < 64) with hc2 | hc2
    ·
      refine p_cons (s_still (v := Value.bool true) p19_1_4 hE (wn_some g19_1_2 rfl rfl) rfl (st_lss rfl rfl (decide_eq_true hc2)) ?_)
      clear hE a; intro a hE
      refine q0 p19_1_5 hE (st_pick rfl rfl) ?_
      clear hE a; intro a hE
      refine q0 p19_1_6 hE (st_assign rfl) ?_
      clear hE a; intro a hE
      refine p_nil ?_
      refine x_norm ?_
      refine wp_ret ?_
      refine ret_one (v := Value.bool true) rfl hE (.tmp rfl .nil) ?_
      exact ⟨by rw [node_t (by omega) (by omega)], K_0⟩
    ·
      refine p_cons (s_still (v := Value.bool false) p19_1_4 hE (wn_some g19_1_2 rfl rfl) rfl (st_lss rfl rfl (decide_eq_false hc2)) ?_)
      clear hE a; intro a hE
      refine q0 p19_1_5 hE (st_pick rfl rfl) ?_
      clear hE a; intro a hE
      refine q0 p19_1_6 hE (st_assign rfl) ?_
      clear hE a; intro a hE
      refine p_nil ?_
      refine x_norm ?_
      refine wp_ret ?_
      refine ret_one (v := Value.bool false) rfl hE (.tmp rfl .nil) ?_
      exact ⟨by rw [node_f (by omega)], K_0⟩
  ·
    refine p_cons (s_still (v := Value.bool false) p19_1_1 hE wn_none rfl (st_geq rfl rfl (decide_eq_false hc1)) ?_)
    clear hE a; intro a hE
    refine q0 p19_1_2 hE (st_move rfl) ?_
    clear hE a; intro a hE
    refine p_cons (s_skip p19_1_3 hE (wn_some g19_1_2 rfl rfl) rfl ?_)
    clear hE a; intro a hE
    refine p_cons (s_skip p19_1_4 hE (wn_some g19_1_2 rfl rfl) rfl ?_)
    clear hE a; intro a hE
    refine q0 p19_1_5 hE (st_pick rfl rfl) ?_
    clear hE a; intro a hE
    refine q0 p19_1_6 hE (st_assign rfl) ?_
    clear hE a; intro a hE
    refine p_nil ?_
    refine x_norm ?_
    refine wp_ret ?_
    refine ret_one (v := Value.bool false) rfl hE (.tmp rfl .nil) ?_
    exact ⟨by rw [node_f (by omega)], K_0⟩
theorem R20_0_l : List.range (regOf Tryd.f20 0).size = [0] := by kernel_rfl
theorem R20_1_l : List.range (regOf Tryd.f20 1).size = [0, 1, 2, 3, 4, 5, 6] := by kernel_rfl
theorem body20 : Tryd.f20.body = some (.seq (.region 0 (regOf Tryd.f20 0) false) (.seq (.region 1 (regOf Tryd.f20 1) false) (.ret))) := by kernel_rfl
theorem p20_0_0 : pj (regOf Tryd.f20 0) 0 = some (some 2, .assign (.const (.bool false)), 4, none) := by kernel_rfl
theorem p20_1_0 : pj (regOf Tryd.f20 1) 0 = some (some 3, .move (.tmp 0), 3, none) := by kernel_rfl
theorem p20_1_1 : pj (regOf Tryd.f20 1) 1 = some (some 4, .binOp .eql 3 (.tmp 3) (.const (.int .i64 (-1))) 3, 4, none) := by kernel_rfl
theorem p20_1_2 : pj (regOf Tryd.f20 1) 2 = some (some 5, .move (.tmp 4), 4, none) := by kernel_rfl
theorem p20_1_3 : pj (regOf Tryd.f20 1) 3 = some (some 6, .move (.tmp 0), 3, some (2, false)) := by kernel_rfl
theorem g20_1_2 : dstOf (regOf Tryd.f20 1) 2 = some 5 := by kernel_rfl
theorem p20_1_4 : pj (regOf Tryd.f20 1) 4 = some (some 7, .call { callee := .value (.func 19), args := #[.tmp 6], argTypes := #[3] }, 4, some (2, false)) := by kernel_rfl
theorem p20_1_5 : pj (regOf Tryd.f20 1) 5 = some (some 8, .pick (.tmp 5) (.const (.bool true)) (.tmp 7), 4, none) := by kernel_rfl
theorem p20_1_6 : pj (regOf Tryd.f20 1) 6 = some (some 2, .assign (.tmp 8), 4, none) := by kernel_rfl
theorem cl19 : callable Tryd.f19 = true := by kernel_rfl
set_option maxHeartbeats 4000000 in
theorem pper (n : Int) (w : World) : Calls Tryd.prog 20 #[.int .i64 n] w fun e w' => e = .returned (.bool (perB n)) ∧ Kp w w' (fun _ => False) := by
  have K_0 := Kp.refl w (fun _ => False)
  refine enter (args := [Value.int .i64 n]) (n := 9) Tryd.func20 body20 rfl rfl rfl ?_
  intro a hE
  refine c_reg R20_0_l ?_
  refine q0 p20_0_0 hE (st_assign rfl) ?_
  clear hE a; intro a hE
  refine p_nil ?_
  refine x_norm ?_
  refine c_reg R20_1_l ?_
  refine q0 p20_1_0 hE (st_move rfl) ?_
  clear hE a; intro a hE
  rcases Decidable.em (n = -1) with hc1 | hc1
  ·
    refine p_cons (s_still (v := Value.bool true) p20_1_1 hE wn_none rfl (st_eql rfl rfl (decide_eq_true hc1)) ?_)
    clear hE a; intro a hE
    refine q0 p20_1_2 hE (st_move rfl) ?_
    clear hE a; intro a hE
    refine p_cons (s_skip p20_1_3 hE (wn_some g20_1_2 rfl rfl) rfl ?_)
    clear hE a; intro a hE
    refine p_cons (s_skip p20_1_4 hE (wn_some g20_1_2 rfl rfl) rfl ?_)
    clear hE a; intro a hE
    refine q0 p20_1_5 hE (st_pick rfl rfl) ?_
    clear hE a; intro a hE
    refine q0 p20_1_6 hE (st_assign rfl) ?_
    clear hE a; intro a hE
    refine p_nil ?_
    refine x_norm ?_
    refine wp_ret ?_
    refine ret_one (v := Value.bool true) rfl hE (.tmp rfl .nil) ?_
    exact ⟨by unfold perB; simp [hc1], K_0⟩
  ·
    refine p_cons (s_still (v := Value.bool false) p20_1_1 hE wn_none rfl (st_eql rfl rfl (decide_eq_false hc1)) ?_)
    clear hE a; intro a hE
    refine q0 p20_1_2 hE (st_move rfl) ?_
    clear hE a; intro a hE
    refine p_cons (s_still p20_1_3 hE (wn_some g20_1_2 rfl rfl) rfl (st_move rfl) ?_)
    clear hE a; intro a hE
    refine p_cons (s_call (xs := [Operand.tmp 6]) (args := [Value.int .i64 n]) p20_1_4 hE (wn_some g20_1_2 rfl rfl) rfl rfl Tryd.func19 cl19 (pnode n _) ?_)
    rintro e w2 ⟨rfl, hk⟩
    replace K_0 := K_0.then_ hk (fun _ h => h.elim)
    refine ⟨_, rfl, ?_⟩
    clear hE a; intro a hE
    refine q0 p20_1_5 hE (st_pick rfl rfl) ?_
    clear hE a; intro a hE
    refine q0 p20_1_6 hE (st_assign rfl) ?_
    clear hE a; intro a hE
    refine p_nil ?_
    refine x_norm ?_
    refine wp_ret ?_
    refine ret_one (v := Value.bool (nodeB n)) rfl hE (.tmp rfl .nil) ?_
    exact ⟨by unfold perB; simp [hc1], K_0⟩
theorem R11_0_l : List.range (regOf Tryd.f11 0).size = [0, 1] := by kernel_rfl
theorem R11_1_l : List.range (regOf Tryd.f11 1).size = [0, 1, 2, 3, 4, 5, 6, 7, 8, 9, 10, 11, 12, 13, 14, 15, 16] := by kernel_rfl
theorem R11_2_l : List.range (regOf Tryd.f11 2).size = [0] := by kernel_rfl
theorem R11_3_l : List.range (regOf Tryd.f11 3).size = [0] := by kernel_rfl
theorem body11 : Tryd.f11.body = some (.seq (.region 0 (regOf Tryd.f11 0) false) (.seq (.seq (.region 1 (regOf Tryd.f11 1) false) (.cond (Operand.tmp 19) (.seq (.region 2 (regOf Tryd.f11 2) false) (.ret)) (.skip))) (.seq (.region 3 (regOf Tryd.f11 3) false) (.ret)))) := by kernel_rfl
theorem p11_0_0 : pj (regOf Tryd.f11 0) 0 = some (some 1, .box 27 (.tmp 0), 0, none) := by kernel_rfl
theorem p11_0_1 : pj (regOf Tryd.f11 0) 1 = some (some 2, .assign (.const (.int .i64 0)), 32, none) := by kernel_rfl
theorem p11_1_0 : pj (regOf Tryd.f11 1) 0 = some (some 3, .fieldAddr 27 (.tmp 1) 0, 0, none) := by kernel_rfl
theorem tS3 : (Tryd.prog.info? 3).map (·.size) = some 1 := by kernel_rfl
theorem p11_1_1 : pj (regOf Tryd.f11 1) 1 = some (some 4, .load 3 (.tmp 3), 3, none) := by kernel_rfl
theorem tA3 : (Tryd.prog.underlying 3).map aggD = some false := by kernel_rfl
theorem p11_1_2 : pj (regOf Tryd.f11 1) 2 = some (some 5, .call { callee := .value (.func 19), args := #[.tmp 4], argTypes := #[3] }, 4, none) := by kernel_rfl
theorem p11_1_3 : pj (regOf Tryd.f11 1) 3 = some (some 6, .unOp .not 4 (.tmp 5), 4, none) := by kernel_rfl
theorem p11_1_4 : pj (regOf Tryd.f11 1) 4 = some (some 7, .move (.tmp 6), 4, none) := by kernel_rfl
theorem p11_1_5 : pj (regOf Tryd.f11 1) 5 = some (some 8, .fieldAddr 27 (.tmp 1) 1, 0, some (4, false)) := by kernel_rfl
theorem g11_1_4 : dstOf (regOf Tryd.f11 1) 4 = some 7 := by kernel_rfl
theorem p11_1_6 : pj (regOf Tryd.f11 1) 6 = some (some 9, .load 3 (.tmp 8), 3, some (4, false)) := by kernel_rfl
theorem p11_1_7 : pj (regOf Tryd.f11 1) 7 = some (some 10, .call { callee := .value (.func 20), args := #[.tmp 9], argTypes := #[3] }, 4, some (4, false)) := by kernel_rfl
theorem cl20 : callable Tryd.f20 = true := by kernel_rfl
theorem p11_1_8 : pj (regOf Tryd.f11 1) 8 = some (some 11, .unOp .not 4 (.tmp 10), 4, some (4, false)) := by kernel_rfl
theorem p11_1_9 : pj (regOf Tryd.f11 1) 9 = some (some 12, .pick (.tmp 7) (.const (.bool true)) (.tmp 11), 4, none) := by kernel_rfl
theorem p11_1_10 : pj (regOf Tryd.f11 1) 10 = some (some 13, .move (.tmp 12), 4, none) := by kernel_rfl
theorem p11_1_11 : pj (regOf Tryd.f11 1) 11 = some (some 14, .fieldAddr 27 (.tmp 1) 1, 0, some (10, false)) := by kernel_rfl
theorem g11_1_10 : dstOf (regOf Tryd.f11 1) 10 = some 13 := by kernel_rfl
theorem p11_1_12 : pj (regOf Tryd.f11 1) 12 = some (some 15, .load 3 (.tmp 14), 3, some (10, false)) := by kernel_rfl
theorem p11_1_13 : pj (regOf Tryd.f11 1) 13 = some (some 16, .fieldAddr 27 (.tmp 1) 0, 0, some (10, false)) := by kernel_rfl
theorem p11_1_14 : pj (regOf Tryd.f11 1) 14 = some (some 17, .load 3 (.tmp 16), 3, some (10, false)) := by kernel_rfl
theorem p11_1_15 : pj (regOf Tryd.f11 1) 15 = some (some 18, .binOp .eql 3 (.tmp 15) (.tmp 17) 3, 4, some (10, false)) := by kernel_rfl
theorem p11_1_16 : pj (regOf Tryd.f11 1) 16 = some (some 19, .pick (.tmp 13) (.const (.bool true)) (.tmp 18), 4, none) := by kernel_rfl
theorem p11_2_0 : pj (regOf Tryd.f11 2) 0 = some (some 2, .assign (.const (.int .i64 1)), 32, none) := by kernel_rfl
theorem p11_3_0 : pj (regOf Tryd.f11 3) 0 = some (some 2, .assign (.const (.int .i64 0)), 32, none) := by kernel_rfl
set_option maxHeartbeats 4000000 in
theorem pcheck (nd pf : Int) (rt : Bool) (g : Nat) (w : World) : Calls Tryd.prog 11 #[.agg #[.int .i64 nd, .int .i64 pf, .bool rt, .pointer (some ⟨g, 0, none⟩)]] w fun e w' => e = .returned (.int .i64 (bif rightV nd pf then 0 else 1)) ∧ Kp w w' (fun _ => False) := by
  have K_0 := Kp.refl w (fun _ => False)
  refine enter (args := [Value.agg #[Value.int .i64 nd, Value.int .i64 pf, Value.bool rt, Value.pointer (some ⟨g, 0, none⟩)]]) (n := 20) Tryd.func11 body11 rfl rfl rfl ?_
  intro a hE
  refine c_reg R11_0_l ?_
  refine p_cons (s_box p11_0_0 hE wn_none rfl rfl ?_)
  clear hE a; intro g1 w2 z3 B_g1 hk a hE
  replace B_g1 : w2.heap[g1]? = some (.cells #[Value.int .i64 nd, Value.int .i64 pf, Value.bool rt, Value.pointer (some ⟨g, 0, none⟩)] 27 (0, 0)) := B_g1
  have z_0_g1 := Nat.le_trans K_0.kept.1 z3
  replace K_0 := K_0.then_ hk (fun _ h => h.elim)
  clear hk
  refine q0 p11_0_1 hE (st_assign rfl) ?_
  clear hE a; intro a hE
  refine p_nil ?_
  refine x_norm ?_
  refine wp_seq ?_
  refine c_reg R11_1_l ?_
  refine q0 p11_1_0 hE (st_fieldAddr Tryd.underlying27 rfl tS3 rfl rfl) ?_
  clear hE a; intro a hE
  refine q0 p11_1_1 hE (st_load1 tA3 rfl ((blk_cell B_g1 0).trans rfl)) ?_
  clear hE a; intro a hE
  refine p_cons (s_call (xs := [Operand.tmp 4]) (args := [Value.int .i64 nd]) p11_1_2 hE wn_none rfl rfl Tryd.func19 cl19 (pnode nd _) ?_)
  rintro e w4 ⟨rfl, hk⟩
  replace B_g1 := kp_blk B_g1 hk (fun h => h)
  replace K_0 := K_0.then_ hk (fun _ h => h.elim)
  refine ⟨_, rfl, ?_⟩
  clear hE a; intro a hE
  refine q0 p11_1_3 hE (st_not rfl rfl) ?_
  clear hE a; intro a hE
  refine q0 p11_1_4 hE (st_move rfl) ?_
  clear hE a; intro a hE
  rcases Bool.eq_false_or_eq_true (nodeB nd) with hb5 | hb5
  ·
    rw [hb5] at hE
    refine p_cons (s_still p11_1_5 hE (wn_some g11_1_4 rfl rfl) rfl (st_fieldAddr Tryd.underlying27 rfl tS3 rfl rfl) ?_)
    clear hE a; intro a hE
    refine p_cons (s_still p11_1_6 hE (wn_some g11_1_4 rfl rfl) rfl (st_load1 tA3 rfl ((blk_cell B_g1 1).trans rfl)) ?_)
    clear hE a; intro a hE
    refine p_cons (s_call (xs := [Operand.tmp 9]) (args := [Value.int .i64 pf]) p11_1_7 hE (wn_some g11_1_4 rfl rfl) rfl rfl Tryd.func20 cl20 (pper pf _) ?_)
    rintro e w6 ⟨rfl, hk⟩
    replace B_g1 := kp_blk B_g1 hk (fun h => h)
    replace K_0 := K_0.then_ hk (fun _ h => h.elim)
    refine ⟨_, rfl, ?_⟩
    clear hE a; intro a hE
    refine p_cons (s_still p11_1_8 hE (wn_some g11_1_4 rfl rfl) rfl (st_not rfl rfl) ?_)
    clear hE a; intro a hE
    refine q0 p11_1_9 hE (st_pick rfl rfl) ?_
    clear hE a; intro a hE
    refine q0 p11_1_10 hE (st_move rfl) ?_
    clear hE a; intro a hE
    rcases Bool.eq_false_or_eq_true (perB pf) with hb7 | hb7
    ·
      rw [hb7] at hE
      refine p_cons (s_still p11_1_11 hE (wn_some g11_1_10 rfl rfl) rfl (st_fieldAddr Tryd.underlying27 rfl tS3 rfl rfl) ?_)
      clear hE a; intro a hE
      refine p_cons (s_still p11_1_12 hE (wn_some g11_1_10 rfl rfl) rfl (st_load1 tA3 rfl ((blk_cell B_g1 1).trans rfl)) ?_)
      clear hE a; intro a hE
      refine p_cons (s_still p11_1_13 hE (wn_some g11_1_10 rfl rfl) rfl (st_fieldAddr Tryd.underlying27 rfl tS3 rfl rfl) ?_)
      clear hE a; intro a hE
      refine p_cons (s_still p11_1_14 hE (wn_some g11_1_10 rfl rfl) rfl (st_load1 tA3 rfl ((blk_cell B_g1 0).trans rfl)) ?_)
      clear hE a; intro a hE
      rcases Decidable.em (pf = nd) with hc8 | hc8
      ·
        refine p_cons (s_still (v := Value.bool true) p11_1_15 hE (wn_some g11_1_10 rfl rfl) rfl (st_eql rfl rfl (decide_eq_true hc8)) ?_)
        clear hE a; intro a hE
        refine q0 p11_1_16 hE (st_pick rfl rfl) ?_
        clear hE a; intro a hE
        refine p_nil ?_
        refine x_norm ?_
        refine c_cond (t := true) hE rfl ?_
        refine c_reg R11_2_l ?_
        refine q0 p11_2_0 hE (st_assign rfl) ?_
        clear hE a; intro a hE
        refine p_nil ?_
        refine x_norm ?_
        refine wp_ret ?_
        refine x_ret ?_
        refine ret_one (v := Value.int .i64 1) rfl hE (.tmp rfl .nil) ?_
        have e0 : rightV nd pf = false := by unfold rightV; simp [hb5, hb7, hc8]
        exact ⟨by rw [e0]; rfl, K_0⟩
      ·
        refine p_cons (s_still (v := Value.bool false) p11_1_15 hE (wn_some g11_1_10 rfl rfl) rfl (st_eql rfl rfl (decide_eq_false hc8)) ?_)
        clear hE a; intro a hE
        refine q0 p11_1_16 hE (st_pick rfl rfl) ?_
        clear hE a; intro a hE
        refine p_nil ?_
        refine x_norm ?_
        refine c_cond (t := false) hE rfl ?_
        refine wp_skip ?_
        refine x_norm ?_
        refine c_reg R11_3_l ?_
        refine q0 p11_3_0 hE (st_assign rfl) ?_
        clear hE a; intro a hE
        refine p_nil ?_
        refine x_norm ?_
        refine wp_ret ?_
        refine ret_one (v := Value.int .i64 0) rfl hE (.tmp rfl .nil) ?_
        have e0 : rightV nd pf = true := by unfold rightV; simp [hb5, hb7, hc8]
        exact ⟨by rw [e0]; rfl, K_0⟩
    ·
      rw [hb7] at hE
      refine p_cons (s_skip p11_1_11 hE (wn_some g11_1_10 rfl rfl) rfl ?_)
      clear hE a; intro a hE
      refine p_cons (s_skip p11_1_12 hE (wn_some g11_1_10 rfl rfl) rfl ?_)
      clear hE a; intro a hE
      refine p_cons (s_skip p11_1_13 hE (wn_some g11_1_10 rfl rfl) rfl ?_)
      clear hE a; intro a hE
      refine p_cons (s_skip p11_1_14 hE (wn_some g11_1_10 rfl rfl) rfl ?_)
      clear hE a; intro a hE
      refine p_cons (s_skip p11_1_15 hE (wn_some g11_1_10 rfl rfl) rfl ?_)
      clear hE a; intro a hE
      refine q0 p11_1_16 hE (st_pick rfl rfl) ?_
      clear hE a; intro a hE
      refine p_nil ?_
      refine x_norm ?_
      refine c_cond (t := true) hE rfl ?_
      refine c_reg R11_2_l ?_
      refine q0 p11_2_0 hE (st_assign rfl) ?_
      clear hE a; intro a hE
      refine p_nil ?_
      refine x_norm ?_
      refine wp_ret ?_
      refine x_ret ?_
      refine ret_one (v := Value.int .i64 1) rfl hE (.tmp rfl .nil) ?_
      have e0 : rightV nd pf = false := by unfold rightV; simp [hb5, hb7]
      exact ⟨by rw [e0]; rfl, K_0⟩
  ·
    rw [hb5] at hE
    refine p_cons (s_skip p11_1_5 hE (wn_some g11_1_4 rfl rfl) rfl ?_)
    clear hE a; intro a hE
    refine p_cons (s_skip p11_1_6 hE (wn_some g11_1_4 rfl rfl) rfl ?_)
    clear hE a; intro a hE
    refine p_cons (s_skip p11_1_7 hE (wn_some g11_1_4 rfl rfl) rfl ?_)
    clear hE a; intro a hE
    refine p_cons (s_skip p11_1_8 hE (wn_some g11_1_4 rfl rfl) rfl ?_)
    clear hE a; intro a hE
    refine q0 p11_1_9 hE (st_pick rfl rfl) ?_
    clear hE a; intro a hE
    refine q0 p11_1_10 hE (st_move rfl) ?_
    clear hE a; intro a hE
    refine p_cons (s_skip p11_1_11 hE (wn_some g11_1_10 rfl rfl) rfl ?_)
    clear hE a; intro a hE
    refine p_cons (s_skip p11_1_12 hE (wn_some g11_1_10 rfl rfl) rfl ?_)
    clear hE a; intro a hE
    refine p_cons (s_skip p11_1_13 hE (wn_some g11_1_10 rfl rfl) rfl ?_)
    clear hE a; intro a hE
    refine p_cons (s_skip p11_1_14 hE (wn_some g11_1_10 rfl rfl) rfl ?_)
    clear hE a; intro a hE
    refine p_cons (s_skip p11_1_15 hE (wn_some g11_1_10 rfl rfl) rfl ?_)
    clear hE a; intro a hE
    refine q0 p11_1_16 hE (st_pick rfl rfl) ?_
    clear hE a; intro a hE
    refine p_nil ?_
    refine x_norm ?_
    refine c_cond (t := true) hE rfl ?_
    refine c_reg R11_2_l ?_
    refine q0 p11_2_0 hE (st_assign rfl) ?_
    clear hE a; intro a hE
    refine p_nil ?_
    refine x_norm ?_
    refine wp_ret ?_
    refine x_ret ?_
    refine ret_one (v := Value.int .i64 1) rfl hE (.tmp rfl .nil) ?_
    have e0 : rightV nd pf = false := by unfold rightV; simp [hb5]
    exact ⟨by rw [e0]; rfl, K_0⟩

theorem R6_0_l : List.range (regOf Tryd.f6 0).size = [0, 1, 2] := by kernel_rfl
theorem R6_1_l : List.range (regOf Tryd.f6 1).size = [0, 1, 2, 3, 4, 5, 6, 7, 8, 9, 10, 11, 12] := by kernel_rfl
theorem R6_2_l : List.range (regOf Tryd.f6 2).size = [0, 1, 2] := by kernel_rfl
theorem R6_3_l : List.range (regOf Tryd.f6 3).size = [0, 1, 2, 3] := by kernel_rfl
theorem R6_4_l : List.range (regOf Tryd.f6 4).size = [0, 1, 2] := by kernel_rfl
theorem R6_5_l : List.range (regOf Tryd.f6 5).size = [0, 1, 2, 3, 4, 5, 6, 7, 8, 9] := by kernel_rfl
theorem R6_6_l : List.range (regOf Tryd.f6 6).size = [0, 1] := by kernel_rfl
theorem R6_7_l : List.range (regOf Tryd.f6 7).size = [0, 1, 2, 3, 4] := by kernel_rfl
theorem R6_8_l : List.range (regOf Tryd.f6 8).size = [0, 1, 2, 3, 4, 5] := by kernel_rfl
theorem R6_9_l : List.range (regOf Tryd.f6 9).size = [0, 1, 2, 3] := by kernel_rfl
theorem R6_10_l : List.range (regOf Tryd.f6 10).size = [0, 1, 2, 3, 4, 5, 6, 7] := by kernel_rfl
theorem R6_11_l : List.range (regOf Tryd.f6 11).size = [0, 1, 2] := by kernel_rfl
theorem R6_12_l : List.range (regOf Tryd.f6 12).size = [0, 1, 2, 3, 4] := by kernel_rfl
theorem body6 : Tryd.f6.body = some (.seq (.region 0 (regOf Tryd.f6 0) false) (.seq (.seq (.region 1 (regOf Tryd.f6 1) false) (.cond (Operand.tmp 24) (.seq (.region 2 (regOf Tryd.f6 2) false) (.ret)) (.skip))) (.seq (.seq (.region 3 (regOf Tryd.f6 3) false) (.cond (Operand.tmp 29) (.seq (.region 4 (regOf Tryd.f6 4) false) (.ret)) (.skip))) (.seq (.seq (.region 5 (regOf Tryd.f6 5) false) (.seq (.region 6 (regOf Tryd.f6 6) false) (.cond (Operand.tmp 39) (.seq (.region 7 (regOf Tryd.f6 7) false) (.ret)) (.skip)))) (.seq (.block 0 (.seq (.region 8 (regOf Tryd.f6 8) false) (.cond (Operand.tmp 43) (.seq (.region 9 (regOf Tryd.f6 9) false) (.ret)) (.seq (.region 10 (regOf Tryd.f6 10) false) (.cond (Operand.tmp 51) (.seq (.region 11 (regOf Tryd.f6 11) false) (.ret)) (.skip)))))) (.seq (.region 12 (regOf Tryd.f6 12) false) (.ret))))))) := by kernel_rfl
theorem p6_0_0 : pj (regOf Tryd.f6 0) 0 = some (some 4, .box 27 (.tmp 0), 0, none) := by kernel_rfl
theorem p6_0_1 : pj (regOf Tryd.f6 0) 1 = some (some 8, .alloc 31, 0, none) := by kernel_rfl
theorem tZ31 : (Tryd.prog.info? 31).bind (·.zero) = some (Value.agg #[Value.int .i64 0, Value.int .i64 0, Value.bool false]) := by kernel_rfl
theorem p6_0_2 : pj (regOf Tryd.f6 0) 2 = some (some 9, .assign (.const (.int .i64 0)), 32, none) := by kernel_rfl
theorem p6_1_0 : pj (regOf Tryd.f6 1) 0 = some (some 12, .load 27 (.tmp 4), 27, none) := by kernel_rfl
theorem tA27 : (Tryd.prog.underlying 27).map aggD = some true := by kernel_rfl
theorem tS27 : (Tryd.prog.info? 27).map (·.size) = some 4 := by kernel_rfl
theorem p6_1_1 : pj (regOf Tryd.f6 1) 1 = some (some 13, .call { callee := .value (.func 11), args := #[.tmp 12], argTypes := #[27] }, 32, none) := by kernel_rfl
theorem cl11 : callable Tryd.f11 = true := by kernel_rfl
theorem p6_1_2 : pj (regOf Tryd.f6 1) 2 = some (some 14, .binOp .neq 32 (.tmp 13) (.const (.int .i64 0)) 32, 4, none) := by kernel_rfl
theorem p6_1_3 : pj (regOf Tryd.f6 1) 3 = some (some 15, .move (.tmp 14), 4, none) := by kernel_rfl
theorem p6_1_4 : pj (regOf Tryd.f6 1) 4 = some (some 16, .move (.tmp 1), 3, some (3, false)) := by kernel_rfl
theorem g6_1_3 : dstOf (regOf Tryd.f6 1) 3 = some 15 := by kernel_rfl
theorem p6_1_5 : pj (regOf Tryd.f6 1) 5 = some (some 17, .call { callee := .value (.func 19), args := #[.tmp 16], argTypes := #[3] }, 4, some (3, false)) := by kernel_rfl
theorem p6_1_6 : pj (regOf Tryd.f6 1) 6 = some (some 18, .unOp .not 4 (.tmp 17), 4, some (3, false)) := by kernel_rfl
theorem p6_1_7 : pj (regOf Tryd.f6 1) 7 = some (some 19, .pick (.tmp 15) (.const (.bool true)) (.tmp 18), 4, none) := by kernel_rfl
theorem p6_1_8 : pj (regOf Tryd.f6 1) 8 = some (some 20, .move (.tmp 19), 4, none) := by kernel_rfl
theorem p6_1_9 : pj (regOf Tryd.f6 1) 9 = some (some 21, .move (.tmp 2), 3, some (8, false)) := by kernel_rfl
theorem g6_1_8 : dstOf (regOf Tryd.f6 1) 8 = some 20 := by kernel_rfl
theorem p6_1_10 : pj (regOf Tryd.f6 1) 10 = some (some 22, .call { callee := .value (.func 20), args := #[.tmp 21], argTypes := #[3] }, 4, some (8, false)) := by kernel_rfl
theorem p6_1_11 : pj (regOf Tryd.f6 1) 11 = some (some 23, .unOp .not 4 (.tmp 22), 4, some (8, false)) := by kernel_rfl
theorem p6_1_12 : pj (regOf Tryd.f6 1) 12 = some (some 24, .pick (.tmp 20) (.const (.bool true)) (.tmp 23), 4, none) := by kernel_rfl
theorem p6_3_0 : pj (regOf Tryd.f6 3) 0 = some (some 26, .move (.tmp 1), 3, none) := by kernel_rfl
theorem p6_3_1 : pj (regOf Tryd.f6 3) 1 = some (some 27, .fieldAddr 27 (.tmp 4) 0, 0, none) := by kernel_rfl
theorem p6_3_2 : pj (regOf Tryd.f6 3) 2 = some (some 28, .load 3 (.tmp 27), 3, none) := by kernel_rfl
theorem p6_3_3 : pj (regOf Tryd.f6 3) 3 = some (some 29, .binOp .eql 3 (.tmp 26) (.tmp 28) 3, 4, none) := by kernel_rfl
theorem p6_4_0 : pj (regOf Tryd.f6 4) 0 = some (some 30, .build 31 #[(0, .const (.int .i64 0)), (1, .const (.int .i64 (-1))), (2, .const (.bool false))], 31, none) := by kernel_rfl
theorem p6_4_1 : pj (regOf Tryd.f6 4) 1 = some (none, .store 31 (.tmp 8) (.tmp 30), 0, none) := by kernel_rfl
theorem tS31 : (Tryd.prog.info? 31).map (·.size) = some 3 := by kernel_rfl
theorem p6_4_2 : pj (regOf Tryd.f6 4) 2 = some (some 9, .assign (.const (.int .i64 0)), 32, none) := by kernel_rfl
theorem tA31 : (Tryd.prog.underlying 31).map aggD = some true := by kernel_rfl
theorem p6_5_0 : pj (regOf Tryd.f6 5) 0 = some (some 32, .fieldAddr 27 (.tmp 4) 3, 0, none) := by kernel_rfl
theorem tS25 : (Tryd.prog.info? 25).map (·.size) = some 1 := by kernel_rfl
theorem p6_5_1 : pj (regOf Tryd.f6 5) 1 = some (some 33, .load 25 (.tmp 32), 25, none) := by kernel_rfl
theorem tA25 : (Tryd.prog.underlying 25).map aggD = some false := by kernel_rfl
theorem p6_5_2 : pj (regOf Tryd.f6 5) 2 = some (some 34, .move (.tmp 1), 3, none) := by kernel_rfl
theorem p6_5_3 : pj (regOf Tryd.f6 5) 3 = some (some 35, .call { callee := .value (.func 21), args := #[.tmp 33, .tmp 34], argTypes := #[25, 3] }, 63, none) := by kernel_rfl
theorem cl21 : callable Tryd.f21 = true := by kernel_rfl
theorem p6_5_4 : pj (regOf Tryd.f6 5) 4 = some (some 31, .move (.tmp 35), 63, none) := by kernel_rfl
theorem p6_5_5 : pj (regOf Tryd.f6 5) 5 = some (some 36, .extract (.tmp 31) 0, 59, none) := by kernel_rfl
theorem p6_5_6 : pj (regOf Tryd.f6 5) 6 = some (some 37, .extract (.tmp 31) 1, 32, none) := by kernel_rfl
theorem p6_5_7 : pj (regOf Tryd.f6 5) 7 = some (some 10, .alloc 59, 0, none) := by kernel_rfl
theorem tZ59 : (Tryd.prog.info? 59).bind (·.zero) = some (Value.agg #[Value.int .i64 0, Value.int .i64 0, Value.int .i64 0, Value.int .i64 0]) := by kernel_rfl
theorem p6_5_8 : pj (regOf Tryd.f6 5) 8 = some (none, .store 59 (.tmp 10) (.tmp 36), 0, none) := by kernel_rfl
theorem tS59 : (Tryd.prog.info? 59).map (·.size) = some 4 := by kernel_rfl
theorem p6_5_9 : pj (regOf Tryd.f6 5) 9 = some (some 11, .assign (.tmp 37), 32, none) := by kernel_rfl
theorem p6_6_0 : pj (regOf Tryd.f6 6) 0 = some (some 38, .move (.tmp 11), 32, none) := by kernel_rfl
theorem p6_6_1 : pj (regOf Tryd.f6 6) 1 = some (some 39, .binOp .eql 32 (.tmp 38) (.const (.int .i64 0)) 32, 4, none) := by kernel_rfl
theorem p6_7_0 : pj (regOf Tryd.f6 7) 0 = some (some 40, .fieldAddr 59 (.tmp 10) 1, 0, none) := by kernel_rfl
theorem p6_7_1 : pj (regOf Tryd.f6 7) 1 = some (some 41, .load 3 (.tmp 40), 3, none) := by kernel_rfl
theorem p6_7_2 : pj (regOf Tryd.f6 7) 2 = some (some 42, .build 31 #[(0, .const (.int .i64 1)), (1, .tmp 41), (2, .const (.bool true))], 31, none) := by kernel_rfl
theorem p6_7_3 : pj (regOf Tryd.f6 7) 3 = some (none, .store 31 (.tmp 8) (.tmp 42), 0, none) := by kernel_rfl
theorem p6_7_4 : pj (regOf Tryd.f6 7) 4 = some (some 9, .assign (.const (.int .i64 0)), 32, none) := by kernel_rfl
theorem p6_8_0 : pj (regOf Tryd.f6 8) 0 = some (some 44, .move (.tmp 3), 4, none) := by kernel_rfl
theorem p6_8_1 : pj (regOf Tryd.f6 8) 1 = some (some 45, .move (.tmp 44), 4, none) := by kernel_rfl
theorem p6_8_2 : pj (regOf Tryd.f6 8) 2 = some (some 46, .move (.tmp 2), 3, some (1, true)) := by kernel_rfl
theorem g6_8_1 : dstOf (regOf Tryd.f6 8) 1 = some 45 := by kernel_rfl
theorem p6_8_3 : pj (regOf Tryd.f6 8) 3 = some (some 47, .binOp .neq 3 (.tmp 46) (.const (.int .i64 (-1))) 3, 4, some (1, true)) := by kernel_rfl
theorem p6_8_4 : pj (regOf Tryd.f6 8) 4 = some (some 48, .pick (.tmp 45) (.tmp 47) (.const (.bool false)), 4, none) := by kernel_rfl
theorem p6_8_5 : pj (regOf Tryd.f6 8) 5 = some (some 43, .assign (.tmp 48), 4, none) := by kernel_rfl
theorem p6_10_0 : pj (regOf Tryd.f6 10) 0 = some (some 52, .fieldAddr 27 (.tmp 4) 2, 0, none) := by kernel_rfl
theorem tS4 : (Tryd.prog.info? 4).map (·.size) = some 1 := by kernel_rfl
theorem p6_10_1 : pj (regOf Tryd.f6 10) 1 = some (some 53, .load 4 (.tmp 52), 4, none) := by kernel_rfl
theorem tA4 : (Tryd.prog.underlying 4).map aggD = some false := by kernel_rfl
theorem p6_10_2 : pj (regOf Tryd.f6 10) 2 = some (some 54, .move (.tmp 53), 4, none) := by kernel_rfl
theorem p6_10_3 : pj (regOf Tryd.f6 10) 3 = some (some 55, .fieldAddr 27 (.tmp 4) 1, 0, some (2, false)) := by kernel_rfl
theorem g6_10_2 : dstOf (regOf Tryd.f6 10) 2 = some 54 := by kernel_rfl
theorem p6_10_4 : pj (regOf Tryd.f6 10) 4 = some (some 56, .load 3 (.tmp 55), 3, some (2, false)) := by kernel_rfl
theorem p6_10_5 : pj (regOf Tryd.f6 10) 5 = some (some 57, .binOp .eql 3 (.tmp 56) (.const (.int .i64 (-1))) 3, 4, some (2, false)) := by kernel_rfl
theorem p6_10_6 : pj (regOf Tryd.f6 10) 6 = some (some 58, .pick (.tmp 54) (.const (.bool true)) (.tmp 57), 4, none) := by kernel_rfl
theorem p6_10_7 : pj (regOf Tryd.f6 10) 7 = some (some 51, .assign (.tmp 58), 4, none) := by kernel_rfl
theorem p6_11_0 : pj (regOf Tryd.f6 11) 0 = some (some 59, .build 31 #[(0, .const (.int .i64 4)), (1, .const (.int .i64 (-1))), (2, .const (.bool false))], 31, none) := by kernel_rfl
theorem p6_11_1 : pj (regOf Tryd.f6 11) 1 = some (none, .store 31 (.tmp 8) (.tmp 59), 0, none) := by kernel_rfl
theorem p6_11_2 : pj (regOf Tryd.f6 11) 2 = some (some 9, .assign (.const (.int .i64 0)), 32, none) := by kernel_rfl
theorem p6_12_0 : pj (regOf Tryd.f6 12) 0 = some (some 60, .fieldAddr 27 (.tmp 4) 1, 0, none) := by kernel_rfl
theorem p6_12_1 : pj (regOf Tryd.f6 12) 1 = some (some 61, .load 3 (.tmp 60), 3, none) := by kernel_rfl
theorem p6_12_2 : pj (regOf Tryd.f6 12) 2 = some (some 62, .build 31 #[(0, .const (.int .i64 2)), (1, .tmp 61), (2, .const (.bool false))], 31, none) := by kernel_rfl
theorem p6_12_3 : pj (regOf Tryd.f6 12) 3 = some (none, .store 31 (.tmp 8) (.tmp 62), 0, none) := by kernel_rfl
theorem p6_12_4 : pj (regOf Tryd.f6 12) 4 = some (some 9, .assign (.const (.int .i64 0)), 32, none) := by kernel_rfl
theorem p6_9_0 : pj (regOf Tryd.f6 9) 0 = some (some 49, .move (.tmp 2), 3, none) := by kernel_rfl
theorem p6_9_1 : pj (regOf Tryd.f6 9) 1 = some (some 50, .build 31 #[(0, .const (.int .i64 3)), (1, .tmp 49), (2, .const (.bool true))], 31, none) := by kernel_rfl
theorem p6_9_2 : pj (regOf Tryd.f6 9) 2 = some (none, .store 31 (.tmp 8) (.tmp 50), 0, none) := by kernel_rfl
theorem p6_9_3 : pj (regOf Tryd.f6 9) 3 = some (some 9, .assign (.const (.int .i64 0)), 32, none) := by kernel_rfl
theorem p6_2_0 : pj (regOf Tryd.f6 2) 0 = some (some 25, .build 31 #[], 31, none) := by kernel_rfl
theorem p6_2_1 : pj (regOf Tryd.f6 2) 1 = some (none, .store 31 (.tmp 8) (.tmp 25), 0, none) := by kernel_rfl
theorem p6_2_2 : pj (regOf Tryd.f6 2) 2 = some (some 9, .assign (.const (.int .i64 1)), 32, none) := by kernel_rfl
set_option maxHeartbeats 4000000 in
theorem next_any (g gm ck : Nat) (es : Array MapEntry) (l : List (Int × R4)) (nd pf : Int) (rt : Bool) (tg fr : Int) (dn : Bool) (w : World) (hok9 : ∀ {x o}, getI l x = some o → okR o = true) (hg : w.heap[g]? = some (.cells #[.int .i64 32, .map (some gm)] 79 (0, 0))) (hm : w.heap[gm]? = some (.map es ck)) (hF : MapI encR es ck l) : Calls Tryd.prog 6 #[.agg #[.int .i64 nd, .int .i64 pf, .bool rt, .pointer (some ⟨g, 0, none⟩)], .int .i64 tg, .int .i64 fr, .bool dn] w fun e w' => e = .returned (hopV (nextF nd pf rt (viaL l tg) tg fr dn)) ∧ Kp w w' (fun _ => False) := by
  have K_0 := Kp.refl w (fun _ => False)
  have B_g := hg
  have B_gm := hm
  refine enter (args := [Value.agg #[Value.int .i64 nd, Value.int .i64 pf, Value.bool rt, Value.pointer (some ⟨g, 0, none⟩)], Value.int .i64 tg, Value.int .i64 fr, Value.bool dn]) (n := 63) Tryd.func6 body6 rfl rfl rfl ?_
  intro a hE
  refine c_reg R6_0_l ?_
  refine p_cons (s_box p6_0_0 hE wn_none rfl rfl ?_)
  clear hE a; intro g1 w2 z3 B_g1 hk a hE
  replace B_g1 : w2.heap[g1]? = some (.cells #[Value.int .i64 nd, Value.int .i64 pf, Value.bool rt, Value.pointer (some ⟨g, 0, none⟩)] 27 (0, 0)) := B_g1
  have n_g_g1 : g ≠ g1 := ne_new B_g z3
  have n_gm_g1 : gm ≠ g1 := ne_new B_gm z3
  have z_0_g1 := Nat.le_trans K_0.kept.1 z3
  replace B_g := kp_blk B_g hk (fun h => h)
  replace B_gm := kp_blk B_gm hk (fun h => h)
  replace K_0 := K_0.then_ hk (fun _ h => h.elim)
  clear hk
  refine p_cons (s_alloc p6_0_1 hE wn_none rfl tZ31 ?_)
  clear hE a; intro g4 w5 z6 B_g4 hk a hE
  replace B_g4 : w5.heap[g4]? = some (.cells #[Value.int .i64 0, Value.int .i64 0, Value.bool false] 31 (0, 0)) := B_g4
  have n_g_g4 : g ≠ g4 := ne_new B_g z6
  have n_gm_g4 : gm ≠ g4 := ne_new B_gm z6
  have n_g1_g4 : g1 ≠ g4 := ne_new B_g1 z6
  have z_0_g4 := Nat.le_trans K_0.kept.1 z6
  replace B_g := kp_blk B_g hk (fun h => h)
  replace B_gm := kp_blk B_gm hk (fun h => h)
  replace B_g1 := kp_blk B_g1 hk (fun h => h)
  replace K_0 := K_0.then_ hk (fun _ h => h.elim)
  clear hk
  refine q0 p6_0_2 hE (st_assign rfl) ?_
  clear hE a; intro a hE
  refine p_nil ?_
  refine x_norm ?_
  refine wp_seq ?_
  rcases Decidable.em (rightV nd pf = true) with hRV | hRV
  ·
    refine c_reg R6_1_l ?_
    refine q0 p6_1_0 hE (st_loadN (off := 0) (k := 4) (vs := [Value.int .i64 nd, Value.int .i64 pf, Value.bool rt, Value.pointer (some ⟨g, 0, none⟩)]) tA27 tS27 rfl B_g1 rfl rfl) ?_
    clear hE a; intro a hE
    refine p_cons (s_call (xs := [Operand.tmp 12]) (args := [Value.agg #[Value.int .i64 nd, Value.int .i64 pf, Value.bool rt, Value.pointer (some ⟨g, 0, none⟩)]]) p6_1_1 hE wn_none rfl rfl Tryd.func11 cl11 (pcheck nd pf rt g _) ?_)
    rintro e w7 ⟨rfl, hk⟩
    replace B_g := kp_blk B_g hk (fun h => h)
    replace B_gm := kp_blk B_gm hk (fun h => h)
    replace B_g1 := kp_blk B_g1 hk (fun h => h)
    replace B_g4 := kp_blk B_g4 hk (fun h => h)
    replace K_0 := K_0.then_ hk (fun _ h => h.elim)
    refine ⟨_, rfl, ?_⟩
    clear hE a; intro a hE
    refine q0 p6_1_2 hE (st_neq (b := false) rfl rfl (by rw [hRV]; rfl)) ?_
    clear hE a; intro a hE
    refine q0 p6_1_3 hE (st_move rfl) ?_
    clear hE a; intro a hE
    refine p_cons (s_still p6_1_4 hE (wn_some g6_1_3 rfl rfl) rfl (st_move rfl) ?_)
    clear hE a; intro a hE
    refine p_cons (s_call (xs := [Operand.tmp 16]) (args := [Value.int .i64 tg]) p6_1_5 hE (wn_some g6_1_3 rfl rfl) rfl rfl Tryd.func19 cl19 (pnode tg _) ?_)
    rintro e w8 ⟨rfl, hk⟩
    replace B_g := kp_blk B_g hk (fun h => h)
    replace B_gm := kp_blk B_gm hk (fun h => h)
    replace B_g1 := kp_blk B_g1 hk (fun h => h)
    replace B_g4 := kp_blk B_g4 hk (fun h => h)
    replace K_0 := K_0.then_ hk (fun _ h => h.elim)
    refine ⟨_, rfl, ?_⟩
    clear hE a; intro a hE
    refine p_cons (s_still p6_1_6 hE (wn_some g6_1_3 rfl rfl) rfl (st_not rfl rfl) ?_)
    clear hE a; intro a hE
    refine q0 p6_1_7 hE (st_pick rfl rfl) ?_
    clear hE a; intro a hE
    refine q0 p6_1_8 hE (st_move rfl) ?_
    clear hE a; intro a hE
    rcases Bool.eq_false_or_eq_true (nodeB tg) with hb9 | hb9
    ·
      rw [hb9] at hE
      refine p_cons (s_still p6_1_9 hE (wn_some g6_1_8 rfl rfl) rfl (st_move rfl) ?_)
      clear hE a; intro a hE
      refine p_cons (s_call (xs := [Operand.tmp 21]) (args := [Value.int .i64 fr]) p6_1_10 hE (wn_some g6_1_8 rfl rfl) rfl rfl Tryd.func20 cl20 (pper fr _) ?_)
      rintro e w10 ⟨rfl, hk⟩
      replace B_g := kp_blk B_g hk (fun h => h)
      replace B_gm := kp_blk B_gm hk (fun h => h)
      replace B_g1 := kp_blk B_g1 hk (fun h => h)
      replace B_g4 := kp_blk B_g4 hk (fun h => h)
      replace K_0 := K_0.then_ hk (fun _ h => h.elim)
      refine ⟨_, rfl, ?_⟩
      clear hE a; intro a hE
      refine p_cons (s_still p6_1_11 hE (wn_some g6_1_8 rfl rfl) rfl (st_not rfl rfl) ?_)
      clear hE a; intro a hE
      refine q0 p6_1_12 hE (st_pick rfl rfl) ?_
      clear hE a; intro a hE
      refine p_nil ?_
      refine x_norm ?_
      rcases Bool.eq_false_or_eq_true (perB fr) with hb11 | hb11
      ·
        rw [hb11] at hE
        refine c_cond (t := false) hE rfl ?_
        refine wp_skip ?_
        refine x_norm ?_
        refine wp_seq ?_
        refine c_reg R6_3_l ?_
        refine q0 p6_3_0 hE (st_move rfl) ?_
        clear hE a; intro a hE
        refine q0 p6_3_1 hE (st_fieldAddr Tryd.underlying27 rfl tS3 rfl rfl) ?_
        clear hE a; intro a hE
        refine q0 p6_3_2 hE (st_load1 tA3 rfl ((blk_cell B_g1 0).trans rfl)) ?_
        clear hE a; intro a hE
        rcases Decidable.em (tg = nd) with hc12 | hc12
        ·
          refine p_cons (s_still (v := Value.bool true) p6_3_3 hE wn_none rfl (st_eql rfl rfl (decide_eq_true hc12)) ?_)
          clear hE a; intro a hE
          refine p_nil ?_
          refine x_norm ?_
          refine c_cond (t := true) hE rfl ?_
          refine c_reg R6_4_l ?_
          refine q0 p6_4_0 hE (st_build (xs := [(0, Operand.const (Value.int IntKind.i64 0)), (1, Operand.const (Value.int IntKind.i64 (-1))), (2, Operand.const (Value.bool false))]) (vs := [(0, Value.int .i64 0), (1, Value.int .i64 (-1)), (2, Value.bool false)]) (cs := #[Value.int .i64 0, Value.int .i64 (-1), Value.bool false]) rfl (by kernel_rfl)) ?_
          clear hE a; intro a hE
          refine p_cons (s_store (off := 0) (k := 3) (cs' := #[Value.int .i64 0, Value.int .i64 (-1), Value.bool false]) p6_4_1 hE wn_none tS31 rfl rfl rfl rfl B_g4 (Nat.le_of_ble_eq_true rfl) rfl ?_)
          intro w13 B_g4' hk
          replace B_g := kp_blk B_g hk n_g_g4
          replace B_gm := kp_blk B_gm hk n_gm_g4
          replace B_g1 := kp_blk B_g1 hk n_g1_g4
          replace K_0 := K_0.then_ hk (fun k h => by rw [show k = g4 from h]; exact Or.inr z_0_g4)
          replace B_g4 := B_g4'
          clear hk
          refine q0 p6_4_2 hE (st_assign rfl) ?_
          clear hE a; intro a hE
          refine p_nil ?_
          refine x_norm ?_
          refine wp_ret ?_
          refine x_ret ?_
          refine ret_list (rs := [.cell 8 31, .tmp 9]) (vs := [Value.agg #[Value.int .i64 0, Value.int .i64 (-1), Value.bool false], Value.int .i64 0]) rfl hE (.cellN (us := [Value.int .i64 0, Value.int .i64 (-1), Value.bool false]) tA31 tS31 rfl B_g4 rfl (.tmp rfl .nil)) rfl ?_
          have e0 : (rightV nd pf && nodeB tg && perB fr) = true := by
            simp only [hRV, hb9, hb11, decide_eq_true hc12, Bool.and_true, Bool.true_and, Bool.and_false, Bool.false_and, Bool.or_true, Bool.true_or, Bool.or_false, Bool.false_or, Bool.not_true, Bool.not_false, Bool.and_self, Bool.or_self]
          exact ⟨by unfold nextF; rw [if_pos e0, if_pos hc12]; rfl, K_0⟩
        ·
          refine p_cons (s_still (v := Value.bool false) p6_3_3 hE wn_none rfl (st_eql rfl rfl (decide_eq_false hc12)) ?_)
          clear hE a; intro a hE
          refine p_nil ?_
          refine x_norm ?_
          refine c_cond (t := false) hE rfl ?_
          refine wp_skip ?_
          refine x_norm ?_
          refine wp_seq ?_
          rcases Decidable.em ((getI l tg).isSome = true) with hHAS | hHAS
          ·
            obtain ⟨o, ho⟩ := Option.isSome_iff_exists.1 hHAS
            have hv : viaL l tg = o.2.1 := by unfold viaL; rw [ho]
            rw [hv]
            have hob9 := okR_b (hok9 ho)
            refine c_reg R6_5_l ?_
            refine q0 p6_5_0 hE (st_fieldAddr Tryd.underlying27 rfl tS25 rfl rfl) ?_
            clear hE a; intro a hE
            refine q0 p6_5_1 hE (st_load1 tA25 rfl ((blk_cell B_g1 3).trans rfl)) ?_
            clear hE a; intro a hE
            refine q0 p6_5_2 hE (st_move rfl) ?_
            clear hE a; intro a hE
            refine p_cons (s_call (xs := [Operand.tmp 33, Operand.tmp 34]) (args := [Value.pointer (some ⟨g, 0, none⟩), Value.int .i64 tg]) p6_5_3 hE wn_none rfl rfl Tryd.func21 cl21 (get_s g gm ck es l tg o ho _ B_g B_gm hF) ?_)
            rintro e w14 ⟨rfl, hk⟩
            replace B_g := kp_blk B_g hk (fun h => h)
            replace B_gm := kp_blk B_gm hk (fun h => h)
            replace B_g1 := kp_blk B_g1 hk (fun h => h)
            replace B_g4 := kp_blk B_g4 hk (fun h => h)
            replace K_0 := K_0.then_ hk (fun _ h => h.elim)
            refine ⟨_, rfl, ?_⟩
            clear hE a; intro a hE
            refine q0 p6_5_4 hE (st_move rfl) ?_
            clear hE a; intro a hE
            refine q0 p6_5_5 hE (st_extract rfl rfl) ?_
            clear hE a; intro a hE
            refine q0 p6_5_6 hE (st_extract rfl rfl) ?_
            clear hE a; intro a hE
            refine p_cons (s_alloc p6_5_7 hE wn_none rfl tZ59 ?_)
            clear hE a; intro g15 w16 z17 B_g15 hk a hE
            replace B_g15 : w16.heap[g15]? = some (.cells #[Value.int .i64 0, Value.int .i64 0, Value.int .i64 0, Value.int .i64 0] 59 (0, 0)) := B_g15
            have n_g_g15 : g ≠ g15 := ne_new B_g z17
            have n_gm_g15 : gm ≠ g15 := ne_new B_gm z17
            have n_g1_g15 : g1 ≠ g15 := ne_new B_g1 z17
            have n_g4_g15 : g4 ≠ g15 := ne_new B_g4 z17
            have z_0_g15 := Nat.le_trans K_0.kept.1 z17
            replace B_g := kp_blk B_g hk (fun h => h)
            replace B_gm := kp_blk B_gm hk (fun h => h)
            replace B_g1 := kp_blk B_g1 hk (fun h => h)
            replace B_g4 := kp_blk B_g4 hk (fun h => h)
            replace K_0 := K_0.then_ hk (fun _ h => h.elim)
            clear hk
            refine p_cons (s_store (off := 0) (k := 4) (cs' := #[Value.int .i64 o.1, Value.int .i64 o.2.1, Value.int .i64 o.2.2.1, Value.int .i64 o.2.2.2]) p6_5_8 hE wn_none tS59 rfl rfl rfl rfl B_g15 (Nat.le_of_ble_eq_true rfl) rfl ?_)
            intro w18 B_g15' hk
            replace B_g := kp_blk B_g hk n_g_g15
            replace B_gm := kp_blk B_gm hk n_gm_g15
            replace B_g1 := kp_blk B_g1 hk n_g1_g15
            replace B_g4 := kp_blk B_g4 hk n_g4_g15
            replace K_0 := K_0.then_ hk (fun k h => by rw [show k = g15 from h]; exact Or.inr z_0_g15)
            replace B_g15 := B_g15'
            clear hk
            refine q0 p6_5_9 hE (st_assign rfl) ?_
            clear hE a; intro a hE
            refine p_nil ?_
            refine x_norm ?_
            refine c_reg R6_6_l ?_
            refine q0 p6_6_0 hE (st_move rfl) ?_
            clear hE a; intro a hE
            refine q0 p6_6_1 hE (st_eql (b := true) rfl rfl (by decide)) ?_
            clear hE a; intro a hE
            refine p_nil ?_
            refine x_norm ?_
            refine c_cond (t := true) hE rfl ?_
            refine c_reg R6_7_l ?_
            refine q0 p6_7_0 hE (st_fieldAddr Tryd.underlying59 rfl tS3 rfl rfl) ?_
            clear hE a; intro a hE
            refine q0 p6_7_1 hE (st_load1 tA3 rfl ((blk_cell B_g15 1).trans rfl)) ?_
            clear hE a; intro a hE
            refine q0 p6_7_2 hE (st_build (xs := [(0, Operand.const (Value.int IntKind.i64 1)), (1, Operand.tmp 41), (2, Operand.const (Value.bool true))]) (vs := [(0, Value.int .i64 1), (1, Value.int .i64 o.2.1), (2, Value.bool true)]) (cs := #[Value.int .i64 1, Value.int .i64 o.2.1, Value.bool true]) rfl (by kernel_rfl)) ?_
            clear hE a; intro a hE
            refine p_cons (s_store (off := 0) (k := 3) (cs' := #[Value.int .i64 1, Value.int .i64 o.2.1, Value.bool true]) p6_7_3 hE wn_none tS31 rfl rfl rfl rfl B_g4 (Nat.le_of_ble_eq_true rfl) rfl ?_)
            intro w19 B_g4' hk
            replace B_g := kp_blk B_g hk n_g_g4
            replace B_gm := kp_blk B_gm hk n_gm_g4
            replace B_g1 := kp_blk B_g1 hk n_g1_g4
            replace B_g15 := kp_blk B_g15 hk (Ne.symm n_g4_g15)
            replace K_0 := K_0.then_ hk (fun k h => by rw [show k = g4 from h]; exact Or.inr z_0_g4)
            replace B_g4 := B_g4'
            clear hk
            refine q0 p6_7_4 hE (st_assign rfl) ?_
            clear hE a; intro a hE
            refine p_nil ?_
            refine x_norm ?_
            refine wp_ret ?_
            refine x_ret ?_
            refine ret_list (rs := [.cell 8 31, .tmp 9]) (vs := [Value.agg #[Value.int .i64 1, Value.int .i64 o.2.1, Value.bool true], Value.int .i64 0]) rfl hE (.cellN (us := [Value.int .i64 1, Value.int .i64 o.2.1, Value.bool true]) tA31 tS31 rfl B_g4 rfl (.tmp rfl .nil)) rfl ?_
            have e0 : (rightV nd pf && nodeB tg && perB fr) = true := by
              simp only [hRV, hb9, hb11, decide_eq_false hc12, Bool.and_true, Bool.true_and, Bool.and_false, Bool.false_and, Bool.or_true, Bool.true_or, Bool.or_false, Bool.false_or, Bool.not_true, Bool.not_false, Bool.and_self, Bool.or_self]
            exact ⟨by unfold nextF; rw [if_pos e0, if_neg hc12, if_pos (by omega)]; rfl, K_0⟩
          ·
            have ho := Option.not_isSome_iff_eq_none.1 hHAS
            have hv : viaL l tg = -1 := by unfold viaL; rw [ho]
            rw [hv]
            refine c_reg R6_5_l ?_
            refine q0 p6_5_0 hE (st_fieldAddr Tryd.underlying27 rfl tS25 rfl rfl) ?_
            clear hE a; intro a hE
            refine q0 p6_5_1 hE (st_load1 tA25 rfl ((blk_cell B_g1 3).trans rfl)) ?_
            clear hE a; intro a hE
            refine q0 p6_5_2 hE (st_move rfl) ?_
            clear hE a; intro a hE
            refine p_cons (s_call (xs := [Operand.tmp 33, Operand.tmp 34]) (args := [Value.pointer (some ⟨g, 0, none⟩), Value.int .i64 tg]) p6_5_3 hE wn_none rfl rfl Tryd.func21 cl21 (get_n g gm ck es l tg ho _ B_g B_gm hF) ?_)
            rintro e w20 ⟨rfl, hk⟩
            replace B_g := kp_blk B_g hk (fun h => h)
            replace B_gm := kp_blk B_gm hk (fun h => h)
            replace B_g1 := kp_blk B_g1 hk (fun h => h)
            replace B_g4 := kp_blk B_g4 hk (fun h => h)
            replace K_0 := K_0.then_ hk (fun _ h => h.elim)
            refine ⟨_, rfl, ?_⟩
            clear hE a; intro a hE
            refine q0 p6_5_4 hE (st_move rfl) ?_
            clear hE a; intro a hE
            refine q0 p6_5_5 hE (st_extract rfl rfl) ?_
            clear hE a; intro a hE
            refine q0 p6_5_6 hE (st_extract rfl rfl) ?_
            clear hE a; intro a hE
            refine p_cons (s_alloc p6_5_7 hE wn_none rfl tZ59 ?_)
            clear hE a; intro g21 w22 z23 B_g21 hk a hE
            replace B_g21 : w22.heap[g21]? = some (.cells #[Value.int .i64 0, Value.int .i64 0, Value.int .i64 0, Value.int .i64 0] 59 (0, 0)) := B_g21
            have n_g_g21 : g ≠ g21 := ne_new B_g z23
            have n_gm_g21 : gm ≠ g21 := ne_new B_gm z23
            have n_g1_g21 : g1 ≠ g21 := ne_new B_g1 z23
            have n_g4_g21 : g4 ≠ g21 := ne_new B_g4 z23
            have z_0_g21 := Nat.le_trans K_0.kept.1 z23
            replace B_g := kp_blk B_g hk (fun h => h)
            replace B_gm := kp_blk B_gm hk (fun h => h)
            replace B_g1 := kp_blk B_g1 hk (fun h => h)
            replace B_g4 := kp_blk B_g4 hk (fun h => h)
            replace K_0 := K_0.then_ hk (fun _ h => h.elim)
            clear hk
            refine p_cons (s_store (off := 0) (k := 4) (cs' := #[Value.int .i64 0, Value.int .i64 0, Value.int .i64 0, Value.int .i64 0]) p6_5_8 hE wn_none tS59 rfl rfl rfl rfl B_g21 (Nat.le_of_ble_eq_true rfl) rfl ?_)
            intro w24 B_g21' hk
            replace B_g := kp_blk B_g hk n_g_g21
            replace B_gm := kp_blk B_gm hk n_gm_g21
            replace B_g1 := kp_blk B_g1 hk n_g1_g21
            replace B_g4 := kp_blk B_g4 hk n_g4_g21
            replace K_0 := K_0.then_ hk (fun k h => by rw [show k = g21 from h]; exact Or.inr z_0_g21)
            replace B_g21 := B_g21'
            clear hk
            refine q0 p6_5_9 hE (st_assign rfl) ?_
            clear hE a; intro a hE
            refine p_nil ?_
            refine x_norm ?_
            refine c_reg R6_6_l ?_
            refine q0 p6_6_0 hE (st_move rfl) ?_
            clear hE a; intro a hE
            refine q0 p6_6_1 hE (st_eql (b := false) rfl rfl (by decide)) ?_
            clear hE a; intro a hE
            refine p_nil ?_
            refine x_norm ?_
            refine c_cond (t := false) hE rfl ?_
            refine wp_skip ?_
            refine x_norm ?_
            refine wp_seq ?_
            refine wp_block ?_
            refine c_reg R6_8_l ?_
            refine q0 p6_8_0 hE (st_move rfl) ?_
            clear hE a; intro a hE
            refine q0 p6_8_1 hE (st_move rfl) ?_
            clear hE a; intro a hE
            rcases Bool.eq_false_or_eq_true dn with hb25 | hb25
            ·
              rw [hb25] at hE
              refine p_cons (s_still p6_8_2 hE (wn_some g6_8_1 rfl rfl) rfl (st_move rfl) ?_)
              clear hE a; intro a hE
              rcases Decidable.em (fr = -1) with hc26 | hc26
              ·
                refine p_cons (s_still (v := Value.bool false) p6_8_3 hE (wn_some g6_8_1 rfl rfl) rfl (st_neq rfl rfl (by rw [decide_eq_true hc26]; rfl)) ?_)
                clear hE a; intro a hE
                refine q0 p6_8_4 hE (st_pick rfl rfl) ?_
                clear hE a; intro a hE
                refine q0 p6_8_5 hE (st_assign rfl) ?_
                clear hE a; intro a hE
                refine p_nil ?_
                refine x_norm ?_
                refine c_cond (t := false) hE rfl ?_
                refine c_reg R6_10_l ?_
                refine q0 p6_10_0 hE (st_fieldAddr Tryd.underlying27 rfl tS4 rfl rfl) ?_
                clear hE a; intro a hE
                refine q0 p6_10_1 hE (st_load1 tA4 rfl ((blk_cell B_g1 2).trans rfl)) ?_
                clear hE a; intro a hE
                refine q0 p6_10_2 hE (st_move rfl) ?_
                clear hE a; intro a hE
                rcases Bool.eq_false_or_eq_true rt with hb27 | hb27
                ·
                  rw [hb27] at hE
                  refine p_cons (s_skip p6_10_3 hE (wn_some g6_10_2 rfl rfl) rfl ?_)
                  clear hE a; intro a hE
                  refine p_cons (s_skip p6_10_4 hE (wn_some g6_10_2 rfl rfl) rfl ?_)
                  clear hE a; intro a hE
                  refine p_cons (s_skip p6_10_5 hE (wn_some g6_10_2 rfl rfl) rfl ?_)
                  clear hE a; intro a hE
                  refine q0 p6_10_6 hE (st_pick rfl rfl) ?_
                  clear hE a; intro a hE
                  refine q0 p6_10_7 hE (st_assign rfl) ?_
                  clear hE a; intro a hE
                  refine p_nil ?_
                  refine x_norm ?_
                  refine c_cond (t := true) hE rfl ?_
                  refine c_reg R6_11_l ?_
                  refine q0 p6_11_0 hE (st_build (xs := [(0, Operand.const (Value.int IntKind.i64 4)), (1, Operand.const (Value.int IntKind.i64 (-1))), (2, Operand.const (Value.bool false))]) (vs := [(0, Value.int .i64 4), (1, Value.int .i64 (-1)), (2, Value.bool false)]) (cs := #[Value.int .i64 4, Value.int .i64 (-1), Value.bool false]) rfl (by kernel_rfl)) ?_
                  clear hE a; intro a hE
                  refine p_cons (s_store (off := 0) (k := 3) (cs' := #[Value.int .i64 4, Value.int .i64 (-1), Value.bool false]) p6_11_1 hE wn_none tS31 rfl rfl rfl rfl B_g4 (Nat.le_of_ble_eq_true rfl) rfl ?_)
                  intro w28 B_g4' hk
                  replace B_g := kp_blk B_g hk n_g_g4
                  replace B_gm := kp_blk B_gm hk n_gm_g4
                  replace B_g1 := kp_blk B_g1 hk n_g1_g4
                  replace B_g21 := kp_blk B_g21 hk (Ne.symm n_g4_g21)
                  replace K_0 := K_0.then_ hk (fun k h => by rw [show k = g4 from h]; exact Or.inr z_0_g4)
                  replace B_g4 := B_g4'
                  clear hk
                  refine q0 p6_11_2 hE (st_assign rfl) ?_
                  clear hE a; intro a hE
                  refine p_nil ?_
                  refine x_norm ?_
                  refine wp_ret ?_
                  refine x_retB ?_
                  refine x_ret ?_
                  refine ret_list (rs := [.cell 8 31, .tmp 9]) (vs := [Value.agg #[Value.int .i64 4, Value.int .i64 (-1), Value.bool false], Value.int .i64 0]) rfl hE (.cellN (us := [Value.int .i64 4, Value.int .i64 (-1), Value.bool false]) tA31 tS31 rfl B_g4 rfl (.tmp rfl .nil)) rfl ?_
                  have e0 : (rightV nd pf && nodeB tg && perB fr) = true := by
                    simp only [hRV, hb9, hb11, hb25, hb27, decide_eq_false hc12, decide_eq_true hc26, Bool.and_true, Bool.true_and, Bool.and_false, Bool.false_and, Bool.or_true, Bool.true_or, Bool.or_false, Bool.false_or, Bool.not_true, Bool.not_false, Bool.and_self, Bool.or_self]
                  have hn9 : perB fr = true := by
                    have := e0
                    simp only [Bool.and_eq_true] at this
                    exact this.2
                  have hv9 : rightV nd pf = true := by
                    have := e0
                    simp only [Bool.and_eq_true] at this
                    exact this.1.1
                  have hb1 := per_b hn9
                  have hb2 := right_b hv9
                  have e1 : ¬ (dn && !decide (fr = -1)) = true := by
                    rw [hb25, decide_eq_true (by omega)]; simp
                  have e2 : (rt || decide (pf = -1)) = true := by rw [hb27]; rfl
                  exact ⟨by unfold nextF; rw [if_pos e0, if_neg hc12, if_neg (by omega), if_neg e1, if_pos e2]; rfl, K_0⟩
                ·
                  rw [hb27] at hE
                  refine p_cons (s_still p6_10_3 hE (wn_some g6_10_2 rfl rfl) rfl (st_fieldAddr Tryd.underlying27 rfl tS3 rfl rfl) ?_)
                  clear hE a; intro a hE
                  refine p_cons (s_still p6_10_4 hE (wn_some g6_10_2 rfl rfl) rfl (st_load1 tA3 rfl ((blk_cell B_g1 1).trans rfl)) ?_)
                  clear hE a; intro a hE
                  rcases Decidable.em (pf = -1) with hc29 | hc29
                  ·
                    refine p_cons (s_still (v := Value.bool true) p6_10_5 hE (wn_some g6_10_2 rfl rfl) rfl (st_eql rfl rfl (decide_eq_true hc29)) ?_)
                    clear hE a; intro a hE
                    refine q0 p6_10_6 hE (st_pick rfl rfl) ?_
                    clear hE a; intro a hE
                    refine q0 p6_10_7 hE (st_assign rfl) ?_
                    clear hE a; intro a hE
                    refine p_nil ?_
                    refine x_norm ?_
                    refine c_cond (t := true) hE rfl ?_
                    refine c_reg R6_11_l ?_
                    refine q0 p6_11_0 hE (st_build (xs := [(0, Operand.const (Value.int IntKind.i64 4)), (1, Operand.const (Value.int IntKind.i64 (-1))), (2, Operand.const (Value.bool false))]) (vs := [(0, Value.int .i64 4), (1, Value.int .i64 (-1)), (2, Value.bool false)]) (cs := #[Value.int .i64 4, Value.int .i64 (-1), Value.bool false]) rfl (by kernel_rfl)) ?_
                    clear hE a; intro a hE
                    refine p_cons (s_store (off := 0) (k := 3) (cs' := #[Value.int .i64 4, Value.int .i64 (-1), Value.bool false]) p6_11_1 hE wn_none tS31 rfl rfl rfl rfl B_g4 (Nat.le_of_ble_eq_true rfl) rfl ?_)
                    intro w30 B_g4' hk
                    replace B_g := kp_blk B_g hk n_g_g4
                    replace B_gm := kp_blk B_gm hk n_gm_g4
                    replace B_g1 := kp_blk B_g1 hk n_g1_g4
                    replace B_g21 := kp_blk B_g21 hk (Ne.symm n_g4_g21)
                    replace K_0 := K_0.then_ hk (fun k h => by rw [show k = g4 from h]; exact Or.inr z_0_g4)
                    replace B_g4 := B_g4'
                    clear hk
                    refine q0 p6_11_2 hE (st_assign rfl) ?_
                    clear hE a; intro a hE
                    refine p_nil ?_
                    refine x_norm ?_
                    refine wp_ret ?_
                    refine x_retB ?_
                    refine x_ret ?_
                    refine ret_list (rs := [.cell 8 31, .tmp 9]) (vs := [Value.agg #[Value.int .i64 4, Value.int .i64 (-1), Value.bool false], Value.int .i64 0]) rfl hE (.cellN (us := [Value.int .i64 4, Value.int .i64 (-1), Value.bool false]) tA31 tS31 rfl B_g4 rfl (.tmp rfl .nil)) rfl ?_
                    have e0 : (rightV nd pf && nodeB tg && perB fr) = true := by
                      simp only [hRV, hb9, hb11, hb25, hb27, decide_eq_false hc12, decide_eq_true hc26, decide_eq_true hc29, Bool.and_true, Bool.true_and, Bool.and_false, Bool.false_and, Bool.or_true, Bool.true_or, Bool.or_false, Bool.false_or, Bool.not_true, Bool.not_false, Bool.and_self, Bool.or_self]
                    have hn9 : perB fr = true := by
                      have := e0
                      simp only [Bool.and_eq_true] at this
                      exact this.2
                    have hv9 : rightV nd pf = true := by
                      have := e0
                      simp only [Bool.and_eq_true] at this
                      exact this.1.1
                    have hb1 := per_b hn9
                    have hb2 := right_b hv9
                    have e1 : ¬ (dn && !decide (fr = -1)) = true := by
                      rw [hb25, decide_eq_true (by omega)]; simp
                    have e2 : (rt || decide (pf = -1)) = true := by rw [hb27, decide_eq_true (by omega)]; rfl
                    exact ⟨by unfold nextF; rw [if_pos e0, if_neg hc12, if_neg (by omega), if_neg e1, if_pos e2]; rfl, K_0⟩
                  ·
                    refine p_cons (s_still (v := Value.bool false) p6_10_5 hE (wn_some g6_10_2 rfl rfl) rfl (st_eql rfl rfl (decide_eq_false hc29)) ?_)
                    clear hE a; intro a hE
                    refine q0 p6_10_6 hE (st_pick rfl rfl) ?_
                    clear hE a; intro a hE
                    refine q0 p6_10_7 hE (st_assign rfl) ?_
                    clear hE a; intro a hE
                    refine p_nil ?_
                    refine x_norm ?_
                    refine c_cond (t := false) hE rfl ?_
                    refine wp_skip ?_
                    refine x_normB ?_
                    refine x_norm ?_
                    refine c_reg R6_12_l ?_
                    refine q0 p6_12_0 hE (st_fieldAddr Tryd.underlying27 rfl tS3 rfl rfl) ?_
                    clear hE a; intro a hE
                    refine q0 p6_12_1 hE (st_load1 tA3 rfl ((blk_cell B_g1 1).trans rfl)) ?_
                    clear hE a; intro a hE
                    refine q0 p6_12_2 hE (st_build (xs := [(0, Operand.const (Value.int IntKind.i64 2)), (1, Operand.tmp 61), (2, Operand.const (Value.bool false))]) (vs := [(0, Value.int .i64 2), (1, Value.int .i64 pf), (2, Value.bool false)]) (cs := #[Value.int .i64 2, Value.int .i64 pf, Value.bool false]) rfl (by kernel_rfl)) ?_
                    clear hE a; intro a hE
                    refine p_cons (s_store (off := 0) (k := 3) (cs' := #[Value.int .i64 2, Value.int .i64 pf, Value.bool false]) p6_12_3 hE wn_none tS31 rfl rfl rfl rfl B_g4 (Nat.le_of_ble_eq_true rfl) rfl ?_)
                    intro w31 B_g4' hk
                    replace B_g := kp_blk B_g hk n_g_g4
                    replace B_gm := kp_blk B_gm hk n_gm_g4
                    replace B_g1 := kp_blk B_g1 hk n_g1_g4
                    replace B_g21 := kp_blk B_g21 hk (Ne.symm n_g4_g21)
                    replace K_0 := K_0.then_ hk (fun k h => by rw [show k = g4 from h]; exact Or.inr z_0_g4)
                    replace B_g4 := B_g4'
                    clear hk
                    refine q0 p6_12_4 hE (st_assign rfl) ?_
                    clear hE a; intro a hE
                    refine p_nil ?_
                    refine x_norm ?_
                    refine wp_ret ?_
                    refine ret_list (rs := [.cell 8 31, .tmp 9]) (vs := [Value.agg #[Value.int .i64 2, Value.int .i64 pf, Value.bool false], Value.int .i64 0]) rfl hE (.cellN (us := [Value.int .i64 2, Value.int .i64 pf, Value.bool false]) tA31 tS31 rfl B_g4 rfl (.tmp rfl .nil)) rfl ?_
                    have e0 : (rightV nd pf && nodeB tg && perB fr) = true := by
                      simp only [hRV, hb9, hb11, hb25, hb27, decide_eq_false hc12, decide_eq_true hc26, decide_eq_false hc29, Bool.and_true, Bool.true_and, Bool.and_false, Bool.false_and, Bool.or_true, Bool.true_or, Bool.or_false, Bool.false_or, Bool.not_true, Bool.not_false, Bool.and_self, Bool.or_self]
                    have hn9 : perB fr = true := by
                      have := e0
                      simp only [Bool.and_eq_true] at this
                      exact this.2
                    have hv9 : rightV nd pf = true := by
                      have := e0
                      simp only [Bool.and_eq_true] at this
                      exact this.1.1
                    have hb1 := per_b hn9
                    have hb2 := right_b hv9
                    have e1 : ¬ (dn && !decide (fr = -1)) = true := by
                      rw [hb25, decide_eq_true (by omega)]; simp
                    have e2 : ¬ (rt || decide (pf = -1)) = true := by rw [hb27, decide_eq_false (by omega)]; simp
                    exact ⟨by unfold nextF; rw [if_pos e0, if_neg hc12, if_neg (by omega), if_neg e1, if_neg e2]; rfl, K_0⟩
              ·
                refine p_cons (s_still (v := Value.bool true) p6_8_3 hE (wn_some g6_8_1 rfl rfl) rfl (st_neq rfl rfl (by rw [decide_eq_false hc26]; rfl)) ?_)
                clear hE a; intro a hE
                refine q0 p6_8_4 hE (st_pick rfl rfl) ?_
                clear hE a; intro a hE
                refine q0 p6_8_5 hE (st_assign rfl) ?_
                clear hE a; intro a hE
                refine p_nil ?_
                refine x_norm ?_
                refine c_cond (t := true) hE rfl ?_
                refine c_reg R6_9_l ?_
                refine q0 p6_9_0 hE (st_move rfl) ?_
                clear hE a; intro a hE
                refine q0 p6_9_1 hE (st_build (xs := [(0, Operand.const (Value.int IntKind.i64 3)), (1, Operand.tmp 49), (2, Operand.const (Value.bool true))]) (vs := [(0, Value.int .i64 3), (1, Value.int .i64 fr), (2, Value.bool true)]) (cs := #[Value.int .i64 3, Value.int .i64 fr, Value.bool true]) rfl (by kernel_rfl)) ?_
                clear hE a; intro a hE
                refine p_cons (s_store (off := 0) (k := 3) (cs' := #[Value.int .i64 3, Value.int .i64 fr, Value.bool true]) p6_9_2 hE wn_none tS31 rfl rfl rfl rfl B_g4 (Nat.le_of_ble_eq_true rfl) rfl ?_)
                intro w32 B_g4' hk
                replace B_g := kp_blk B_g hk n_g_g4
                replace B_gm := kp_blk B_gm hk n_gm_g4
                replace B_g1 := kp_blk B_g1 hk n_g1_g4
                replace B_g21 := kp_blk B_g21 hk (Ne.symm n_g4_g21)
                replace K_0 := K_0.then_ hk (fun k h => by rw [show k = g4 from h]; exact Or.inr z_0_g4)
                replace B_g4 := B_g4'
                clear hk
                refine q0 p6_9_3 hE (st_assign rfl) ?_
                clear hE a; intro a hE
                refine p_nil ?_
                refine x_norm ?_
                refine wp_ret ?_
                refine x_retB ?_
                refine x_ret ?_
                refine ret_list (rs := [.cell 8 31, .tmp 9]) (vs := [Value.agg #[Value.int .i64 3, Value.int .i64 fr, Value.bool true], Value.int .i64 0]) rfl hE (.cellN (us := [Value.int .i64 3, Value.int .i64 fr, Value.bool true]) tA31 tS31 rfl B_g4 rfl (.tmp rfl .nil)) rfl ?_
                have e0 : (rightV nd pf && nodeB tg && perB fr) = true := by
                  simp only [hRV, hb9, hb11, hb25, decide_eq_false hc12, decide_eq_false hc26, Bool.and_true, Bool.true_and, Bool.and_false, Bool.false_and, Bool.or_true, Bool.true_or, Bool.or_false, Bool.false_or, Bool.not_true, Bool.not_false, Bool.and_self, Bool.or_self]
                have hn9 : perB fr = true := by
                  have := e0
                  simp only [Bool.and_eq_true] at this
                  exact this.2
                have hv9 : rightV nd pf = true := by
                  have := e0
                  simp only [Bool.and_eq_true] at this
                  exact this.1.1
                have hb1 := per_b hn9
                have hb2 := right_b hv9
                have e1 : (dn && !decide (fr = -1)) = true := by rw [hb25, decide_eq_false (by omega)]; rfl
                exact ⟨by unfold nextF; rw [if_pos e0, if_neg hc12, if_neg (by omega), if_pos e1]; rfl, K_0⟩
            ·
              rw [hb25] at hE
              refine p_cons (s_skip p6_8_2 hE (wn_some g6_8_1 rfl rfl) rfl ?_)
              clear hE a; intro a hE
              refine p_cons (s_skip p6_8_3 hE (wn_some g6_8_1 rfl rfl) rfl ?_)
              clear hE a; intro a hE
              refine q0 p6_8_4 hE (st_pick rfl rfl) ?_
              clear hE a; intro a hE
              refine q0 p6_8_5 hE (st_assign rfl) ?_
              clear hE a; intro a hE
              refine p_nil ?_
              refine x_norm ?_
              refine c_cond (t := false) hE rfl ?_
              refine c_reg R6_10_l ?_
              refine q0 p6_10_0 hE (st_fieldAddr Tryd.underlying27 rfl tS4 rfl rfl) ?_
              clear hE a; intro a hE
              refine q0 p6_10_1 hE (st_load1 tA4 rfl ((blk_cell B_g1 2).trans rfl)) ?_
              clear hE a; intro a hE
              refine q0 p6_10_2 hE (st_move rfl) ?_
              clear hE a; intro a hE
              rcases Bool.eq_false_or_eq_true rt with hb33 | hb33
              ·
                rw [hb33] at hE
                refine p_cons (s_skip p6_10_3 hE (wn_some g6_10_2 rfl rfl) rfl ?_)
                clear hE a; intro a hE
                refine p_cons (s_skip p6_10_4 hE (wn_some g6_10_2 rfl rfl) rfl ?_)
                clear hE a; intro a hE
                refine p_cons (s_skip p6_10_5 hE (wn_some g6_10_2 rfl rfl) rfl ?_)
                clear hE a; intro a hE
                refine q0 p6_10_6 hE (st_pick rfl rfl) ?_
                clear hE a; intro a hE
                refine q0 p6_10_7 hE (st_assign rfl) ?_
                clear hE a; intro a hE
                refine p_nil ?_
                refine x_norm ?_
                refine c_cond (t := true) hE rfl ?_
                refine c_reg R6_11_l ?_
                refine q0 p6_11_0 hE (st_build (xs := [(0, Operand.const (Value.int IntKind.i64 4)), (1, Operand.const (Value.int IntKind.i64 (-1))), (2, Operand.const (Value.bool false))]) (vs := [(0, Value.int .i64 4), (1, Value.int .i64 (-1)), (2, Value.bool false)]) (cs := #[Value.int .i64 4, Value.int .i64 (-1), Value.bool false]) rfl (by kernel_rfl)) ?_
                clear hE a; intro a hE
                refine p_cons (s_store (off := 0) (k := 3) (cs' := #[Value.int .i64 4, Value.int .i64 (-1), Value.bool false]) p6_11_1 hE wn_none tS31 rfl rfl rfl rfl B_g4 (Nat.le_of_ble_eq_true rfl) rfl ?_)
                intro w34 B_g4' hk
                replace B_g := kp_blk B_g hk n_g_g4
                replace B_gm := kp_blk B_gm hk n_gm_g4
                replace B_g1 := kp_blk B_g1 hk n_g1_g4
                replace B_g21 := kp_blk B_g21 hk (Ne.symm n_g4_g21)
                replace K_0 := K_0.then_ hk (fun k h => by rw [show k = g4 from h]; exact Or.inr z_0_g4)
                replace B_g4 := B_g4'
                clear hk
                refine q0 p6_11_2 hE (st_assign rfl) ?_
                clear hE a; intro a hE
                refine p_nil ?_
                refine x_norm ?_
                refine wp_ret ?_
                refine x_retB ?_
                refine x_ret ?_
                refine ret_list (rs := [.cell 8 31, .tmp 9]) (vs := [Value.agg #[Value.int .i64 4, Value.int .i64 (-1), Value.bool false], Value.int .i64 0]) rfl hE (.cellN (us := [Value.int .i64 4, Value.int .i64 (-1), Value.bool false]) tA31 tS31 rfl B_g4 rfl (.tmp rfl .nil)) rfl ?_
                have e0 : (rightV nd pf && nodeB tg && perB fr) = true := by
                  simp only [hRV, hb9, hb11, hb25, hb33, decide_eq_false hc12, Bool.and_true, Bool.true_and, Bool.and_false, Bool.false_and, Bool.or_true, Bool.true_or, Bool.or_false, Bool.false_or, Bool.not_true, Bool.not_false, Bool.and_self, Bool.or_self]
                have hn9 : perB fr = true := by
                  have := e0
                  simp only [Bool.and_eq_true] at this
                  exact this.2
                have hv9 : rightV nd pf = true := by
                  have := e0
                  simp only [Bool.and_eq_true] at this
                  exact this.1.1
                have hb1 := per_b hn9
                have hb2 := right_b hv9
                have e1 : ¬ (dn && !decide (fr = -1)) = true := by
                  rw [hb25]; simp
                have e2 : (rt || decide (pf = -1)) = true := by rw [hb33]; rfl
                exact ⟨by unfold nextF; rw [if_pos e0, if_neg hc12, if_neg (by omega), if_neg e1, if_pos e2]; rfl, K_0⟩
              ·
                rw [hb33] at hE
                refine p_cons (s_still p6_10_3 hE (wn_some g6_10_2 rfl rfl) rfl (st_fieldAddr Tryd.underlying27 rfl tS3 rfl rfl) ?_)
                clear hE a; intro a hE
                refine p_cons (s_still p6_10_4 hE (wn_some g6_10_2 rfl rfl) rfl (st_load1 tA3 rfl ((blk_cell B_g1 1).trans rfl)) ?_)
                clear hE a; intro a hE
                rcases Decidable.em (pf = -1) with hc35 | hc35
                ·
                  refine p_cons (s_still (v := Value.bool true) p6_10_5 hE (wn_some g6_10_2 rfl rfl) rfl (st_eql rfl rfl (decide_eq_true hc35)) ?_)
                  clear hE a; intro a hE
                  refine q0 p6_10_6 hE (st_pick rfl rfl) ?_
                  clear hE a; intro a hE
                  refine q0 p6_10_7 hE (st_assign rfl) ?_
                  clear hE a; intro a hE
                  refine p_nil ?_
                  refine x_norm ?_
                  refine c_cond (t := true) hE rfl ?_
                  refine c_reg R6_11_l ?_
                  refine q0 p6_11_0 hE (st_build (xs := [(0, Operand.const (Value.int IntKind.i64 4)), (1, Operand.const (Value.int IntKind.i64 (-1))), (2, Operand.const (Value.bool false))]) (vs := [(0, Value.int .i64 4), (1, Value.int .i64 (-1)), (2, Value.bool false)]) (cs := #[Value.int .i64 4, Value.int .i64 (-1), Value.bool false]) rfl (by kernel_rfl)) ?_
                  clear hE a; intro a hE
                  refine p_cons (s_store (off := 0) (k := 3) (cs' := #[Value.int .i64 4, Value.int .i64 (-1), Value.bool false]) p6_11_1 hE wn_none tS31 rfl rfl rfl rfl B_g4 (Nat.le_of_ble_eq_true rfl) rfl ?_)
                  intro w36 B_g4' hk
                  replace B_g := kp_blk B_g hk n_g_g4
                  replace B_gm := kp_blk B_gm hk n_gm_g4
                  replace B_g1 := kp_blk B_g1 hk n_g1_g4
                  replace B_g21 := kp_blk B_g21 hk (Ne.symm n_g4_g21)
                  replace K_0 := K_0.then_ hk (fun k h => by rw [show k = g4 from h]; exact Or.inr z_0_g4)
                  replace B_g4 := B_g4'
                  clear hk
                  refine q0 p6_11_2 hE (st_assign rfl) ?_
                  clear hE a; intro a hE
                  refine p_nil ?_
                  refine x_norm ?_
                  refine wp_ret ?_
                  refine x_retB ?_
                  refine x_ret ?_
                  refine ret_list (rs := [.cell 8 31, .tmp 9]) (vs := [Value.agg #[Value.int .i64 4, Value.int .i64 (-1), Value.bool false], Value.int .i64 0]) rfl hE (.cellN (us := [Value.int .i64 4, Value.int .i64 (-1), Value.bool false]) tA31 tS31 rfl B_g4 rfl (.tmp rfl .nil)) rfl ?_
                  have e0 : (rightV nd pf && nodeB tg && perB fr) = true := by
                    simp only [hRV, hb9, hb11, hb25, hb33, decide_eq_false hc12, decide_eq_true hc35, Bool.and_true, Bool.true_and, Bool.and_false, Bool.false_and, Bool.or_true, Bool.true_or, Bool.or_false, Bool.false_or, Bool.not_true, Bool.not_false, Bool.and_self, Bool.or_self]
                  have hn9 : perB fr = true := by
                    have := e0
                    simp only [Bool.and_eq_true] at this
                    exact this.2
                  have hv9 : rightV nd pf = true := by
                    have := e0
                    simp only [Bool.and_eq_true] at this
                    exact this.1.1
                  have hb1 := per_b hn9
                  have hb2 := right_b hv9
                  have e1 : ¬ (dn && !decide (fr = -1)) = true := by
                    rw [hb25]; simp
                  have e2 : (rt || decide (pf = -1)) = true := by rw [hb33, decide_eq_true (by omega)]; rfl
                  exact ⟨by unfold nextF; rw [if_pos e0, if_neg hc12, if_neg (by omega), if_neg e1, if_pos e2]; rfl, K_0⟩
                ·
                  refine p_cons (s_still (v := Value.bool false) p6_10_5 hE (wn_some g6_10_2 rfl rfl) rfl (st_eql rfl rfl (decide_eq_false hc35)) ?_)
                  clear hE a; intro a hE
                  refine q0 p6_10_6 hE (st_pick rfl rfl) ?_
                  clear hE a; intro a hE
                  refine q0 p6_10_7 hE (st_assign rfl) ?_
                  clear hE a; intro a hE
                  refine p_nil ?_
                  refine x_norm ?_
                  refine c_cond (t := false) hE rfl ?_
                  refine wp_skip ?_
                  refine x_normB ?_
                  refine x_norm ?_
                  refine c_reg R6_12_l ?_
                  refine q0 p6_12_0 hE (st_fieldAddr Tryd.underlying27 rfl tS3 rfl rfl) ?_
                  clear hE a; intro a hE
                  refine q0 p6_12_1 hE (st_load1 tA3 rfl ((blk_cell B_g1 1).trans rfl)) ?_
                  clear hE a; intro a hE
                  refine q0 p6_12_2 hE (st_build (xs := [(0, Operand.const (Value.int IntKind.i64 2)), (1, Operand.tmp 61), (2, Operand.const (Value.bool false))]) (vs := [(0, Value.int .i64 2), (1, Value.int .i64 pf), (2, Value.bool false)]) (cs := #[Value.int .i64 2, Value.int .i64 pf, Value.bool false]) rfl (by kernel_rfl)) ?_
                  clear hE a; intro a hE
                  refine p_cons (s_store (off := 0) (k := 3) (cs' := #[Value.int .i64 2, Value.int .i64 pf, Value.bool false]) p6_12_3 hE wn_none tS31 rfl rfl rfl rfl B_g4 (Nat.le_of_ble_eq_true rfl) rfl ?_)
                  intro w37 B_g4' hk
                  replace B_g := kp_blk B_g hk n_g_g4
                  replace B_gm := kp_blk B_gm hk n_gm_g4
                  replace B_g1 := kp_blk B_g1 hk n_g1_g4
                  replace B_g21 := kp_blk B_g21 hk (Ne.symm n_g4_g21)
                  replace K_0 := K_0.then_ hk (fun k h => by rw [show k = g4 from h]; exact Or.inr z_0_g4)
                  replace B_g4 := B_g4'
                  clear hk
                  refine q0 p6_12_4 hE (st_assign rfl) ?_
                  clear hE a; intro a hE
                  refine p_nil ?_
                  refine x_norm ?_
                  refine wp_ret ?_
                  refine ret_list (rs := [.cell 8 31, .tmp 9]) (vs := [Value.agg #[Value.int .i64 2, Value.int .i64 pf, Value.bool false], Value.int .i64 0]) rfl hE (.cellN (us := [Value.int .i64 2, Value.int .i64 pf, Value.bool false]) tA31 tS31 rfl B_g4 rfl (.tmp rfl .nil)) rfl ?_
                  have e0 : (rightV nd pf && nodeB tg && perB fr) = true := by
                    simp only [hRV, hb9, hb11, hb25, hb33, decide_eq_false hc12, decide_eq_false hc35, Bool.and_true, Bool.true_and, Bool.and_false, Bool.false_and, Bool.or_true, Bool.true_or, Bool.or_false, Bool.false_or, Bool.not_true, Bool.not_false, Bool.and_self, Bool.or_self]
                  have hn9 : perB fr = true := by
                    have := e0
                    simp only [Bool.and_eq_true] at this
                    exact this.2
                  have hv9 : rightV nd pf = true := by
                    have := e0
                    simp only [Bool.and_eq_true] at this
                    exact this.1.1
                  have hb1 := per_b hn9
                  have hb2 := right_b hv9
                  have e1 : ¬ (dn && !decide (fr = -1)) = true := by
                    rw [hb25]; simp
                  have e2 : ¬ (rt || decide (pf = -1)) = true := by rw [hb33, decide_eq_false (by omega)]; simp
                  exact ⟨by unfold nextF; rw [if_pos e0, if_neg hc12, if_neg (by omega), if_neg e1, if_neg e2]; rfl, K_0⟩
      ·
        rw [hb11] at hE
        refine c_cond (t := true) hE rfl ?_
        refine c_reg R6_2_l ?_
        refine q0 p6_2_0 hE (st_build (xs := []) (vs := []) (cs := #[Value.int .i64 0, Value.int .i64 0, Value.bool false]) rfl (by kernel_rfl)) ?_
        clear hE a; intro a hE
        refine p_cons (s_store (off := 0) (k := 3) (cs' := #[Value.int .i64 0, Value.int .i64 0, Value.bool false]) p6_2_1 hE wn_none tS31 rfl rfl rfl rfl B_g4 (Nat.le_of_ble_eq_true rfl) rfl ?_)
        intro w38 B_g4' hk
        replace B_g := kp_blk B_g hk n_g_g4
        replace B_gm := kp_blk B_gm hk n_gm_g4
        replace B_g1 := kp_blk B_g1 hk n_g1_g4
        replace K_0 := K_0.then_ hk (fun k h => by rw [show k = g4 from h]; exact Or.inr z_0_g4)
        replace B_g4 := B_g4'
        clear hk
        refine q0 p6_2_2 hE (st_assign rfl) ?_
        clear hE a; intro a hE
        refine p_nil ?_
        refine x_norm ?_
        refine wp_ret ?_
        refine x_ret ?_
        refine ret_list (rs := [.cell 8 31, .tmp 9]) (vs := [Value.agg #[Value.int .i64 0, Value.int .i64 0, Value.bool false], Value.int .i64 1]) rfl hE (.cellN (us := [Value.int .i64 0, Value.int .i64 0, Value.bool false]) tA31 tS31 rfl B_g4 rfl (.tmp rfl .nil)) rfl ?_
        have e0 : (rightV nd pf && nodeB tg && perB fr) = false := by
          simp only [hRV, hb9, hb11, Bool.and_true, Bool.true_and, Bool.and_false, Bool.false_and, Bool.or_true, Bool.true_or, Bool.or_false, Bool.false_or, Bool.not_true, Bool.not_false, Bool.and_self, Bool.or_self]
        exact ⟨by unfold nextF; rw [e0]; rfl, K_0⟩
    ·
      rw [hb9] at hE
      refine p_cons (s_skip p6_1_9 hE (wn_some g6_1_8 rfl rfl) rfl ?_)
      clear hE a; intro a hE
      refine p_cons (s_skip p6_1_10 hE (wn_some g6_1_8 rfl rfl) rfl ?_)
      clear hE a; intro a hE
      refine p_cons (s_skip p6_1_11 hE (wn_some g6_1_8 rfl rfl) rfl ?_)
      clear hE a; intro a hE
      refine q0 p6_1_12 hE (st_pick rfl rfl) ?_
      clear hE a; intro a hE
      refine p_nil ?_
      refine x_norm ?_
      refine c_cond (t := true) hE rfl ?_
      refine c_reg R6_2_l ?_
      refine q0 p6_2_0 hE (st_build (xs := []) (vs := []) (cs := #[Value.int .i64 0, Value.int .i64 0, Value.bool false]) rfl (by kernel_rfl)) ?_
      clear hE a; intro a hE
      refine p_cons (s_store (off := 0) (k := 3) (cs' := #[Value.int .i64 0, Value.int .i64 0, Value.bool false]) p6_2_1 hE wn_none tS31 rfl rfl rfl rfl B_g4 (Nat.le_of_ble_eq_true rfl) rfl ?_)
      intro w39 B_g4' hk
      replace B_g := kp_blk B_g hk n_g_g4
      replace B_gm := kp_blk B_gm hk n_gm_g4
      replace B_g1 := kp_blk B_g1 hk n_g1_g4
      replace K_0 := K_0.then_ hk (fun k h => by rw [show k = g4 from h]; exact Or.inr z_0_g4)
      replace B_g4 := B_g4'
      clear hk
      refine q0 p6_2_2 hE (st_assign rfl) ?_
      clear hE a; intro a hE
      refine p_nil ?_
      refine x_norm ?_
      refine wp_ret ?_
      refine x_ret ?_
      refine ret_list (rs := [.cell 8 31, .tmp 9]) (vs := [Value.agg #[Value.int .i64 0, Value.int .i64 0, Value.bool false], Value.int .i64 1]) rfl hE (.cellN (us := [Value.int .i64 0, Value.int .i64 0, Value.bool false]) tA31 tS31 rfl B_g4 rfl (.tmp rfl .nil)) rfl ?_
      have e0 : (rightV nd pf && nodeB tg && perB fr) = false := by
        simp only [hRV, hb9, Bool.and_true, Bool.true_and, Bool.and_false, Bool.false_and, Bool.or_true, Bool.true_or, Bool.or_false, Bool.false_or, Bool.not_true, Bool.not_false, Bool.and_self, Bool.or_self]
      exact ⟨by unfold nextF; rw [e0]; rfl, K_0⟩
  ·
    have hRV9 : rightV nd pf = false := by simpa using hRV
    refine c_reg R6_1_l ?_
    refine q0 p6_1_0 hE (st_loadN (off := 0) (k := 4) (vs := [Value.int .i64 nd, Value.int .i64 pf, Value.bool rt, Value.pointer (some ⟨g, 0, none⟩)]) tA27 tS27 rfl B_g1 rfl rfl) ?_
    clear hE a; intro a hE
    refine p_cons (s_call (xs := [Operand.tmp 12]) (args := [Value.agg #[Value.int .i64 nd, Value.int .i64 pf, Value.bool rt, Value.pointer (some ⟨g, 0, none⟩)]]) p6_1_1 hE wn_none rfl rfl Tryd.func11 cl11 (pcheck nd pf rt g _) ?_)
    rintro e w40 ⟨rfl, hk⟩
    replace B_g := kp_blk B_g hk (fun h => h)
    replace B_gm := kp_blk B_gm hk (fun h => h)
    replace B_g1 := kp_blk B_g1 hk (fun h => h)
    replace B_g4 := kp_blk B_g4 hk (fun h => h)
    replace K_0 := K_0.then_ hk (fun _ h => h.elim)
    refine ⟨_, rfl, ?_⟩
    clear hE a; intro a hE
    refine q0 p6_1_2 hE (st_neq (b := true) rfl rfl (by rw [hRV9]; rfl)) ?_
    clear hE a; intro a hE
    refine q0 p6_1_3 hE (st_move rfl) ?_
    clear hE a; intro a hE
    refine p_cons (s_skip p6_1_4 hE (wn_some g6_1_3 rfl rfl) rfl ?_)
    clear hE a; intro a hE
    refine p_cons (s_skip p6_1_5 hE (wn_some g6_1_3 rfl rfl) rfl ?_)
    clear hE a; intro a hE
    refine p_cons (s_skip p6_1_6 hE (wn_some g6_1_3 rfl rfl) rfl ?_)
    clear hE a; intro a hE
    refine q0 p6_1_7 hE (st_pick rfl rfl) ?_
    clear hE a; intro a hE
    refine q0 p6_1_8 hE (st_move rfl) ?_
    clear hE a; intro a hE
    refine p_cons (s_skip p6_1_9 hE (wn_some g6_1_8 rfl rfl) rfl ?_)
    clear hE a; intro a hE
    refine p_cons (s_skip p6_1_10 hE (wn_some g6_1_8 rfl rfl) rfl ?_)
    clear hE a; intro a hE
    refine p_cons (s_skip p6_1_11 hE (wn_some g6_1_8 rfl rfl) rfl ?_)
    clear hE a; intro a hE
    refine q0 p6_1_12 hE (st_pick rfl rfl) ?_
    clear hE a; intro a hE
    refine p_nil ?_
    refine x_norm ?_
    refine c_cond (t := true) hE rfl ?_
    refine c_reg R6_2_l ?_
    refine q0 p6_2_0 hE (st_build (xs := []) (vs := []) (cs := #[Value.int .i64 0, Value.int .i64 0, Value.bool false]) rfl (by kernel_rfl)) ?_
    clear hE a; intro a hE
    refine p_cons (s_store (off := 0) (k := 3) (cs' := #[Value.int .i64 0, Value.int .i64 0, Value.bool false]) p6_2_1 hE wn_none tS31 rfl rfl rfl rfl B_g4 (Nat.le_of_ble_eq_true rfl) rfl ?_)
    intro w41 B_g4' hk
    replace B_g := kp_blk B_g hk n_g_g4
    replace B_gm := kp_blk B_gm hk n_gm_g4
    replace B_g1 := kp_blk B_g1 hk n_g1_g4
    replace K_0 := K_0.then_ hk (fun k h => by rw [show k = g4 from h]; exact Or.inr z_0_g4)
    replace B_g4 := B_g4'
    clear hk
    refine q0 p6_2_2 hE (st_assign rfl) ?_
    clear hE a; intro a hE
    refine p_nil ?_
    refine x_norm ?_
    refine wp_ret ?_
    refine x_ret ?_
    refine ret_list (rs := [.cell 8 31, .tmp 9]) (vs := [Value.agg #[Value.int .i64 0, Value.int .i64 0, Value.bool false], Value.int .i64 1]) rfl hE (.cellN (us := [Value.int .i64 0, Value.int .i64 0, Value.bool false]) tA31 tS31 rfl B_g4 rfl (.tmp rfl .nil)) rfl ?_
    have e0 : (rightV nd pf && nodeB tg && perB fr) = false := by
      simp only [hRV9, Bool.and_true, Bool.true_and, Bool.and_false, Bool.false_and, Bool.or_true, Bool.true_or, Bool.or_false, Bool.false_or, Bool.not_true, Bool.not_false, Bool.and_self, Bool.or_self]
    exact ⟨by unfold nextF; rw [e0]; rfl, K_0⟩

theorem R7_0_l : List.range (regOf Tryd.f7 0).size = [0, 1, 2] := by kernel_rfl
theorem R7_1_l : List.range (regOf Tryd.f7 1).size = [0, 1, 2, 3, 4, 5, 6, 7, 8, 9, 10, 11, 12, 13, 14, 15, 16, 17, 18, 19, 20, 21, 22, 23, 24, 25, 26, 27, 28, 29, 30, 31, 32, 33, 34, 35] := by kernel_rfl
theorem R7_2_l : List.range (regOf Tryd.f7 2).size = [0, 1, 2] := by kernel_rfl
theorem R7_3_l : List.range (regOf Tryd.f7 3).size = [0, 1, 2, 3, 4] := by kernel_rfl
theorem R7_4_l : List.range (regOf Tryd.f7 4).size = [0, 1, 2, 3, 4] := by kernel_rfl
theorem R7_5_l : List.range (regOf Tryd.f7 5).size = [0, 1, 2] := by kernel_rfl
theorem R7_6_l : List.range (regOf Tryd.f7 6).size = [0, 1, 2] := by kernel_rfl
theorem R7_7_l : List.range (regOf Tryd.f7 7).size = [0, 1, 2, 3] := by kernel_rfl
theorem R7_8_l : List.range (regOf Tryd.f7 8).size = [0, 1, 2, 3, 4, 5] := by kernel_rfl
theorem R7_9_l : List.range (regOf Tryd.f7 9).size = [0, 1, 2, 3] := by kernel_rfl
theorem R7_10_l : List.range (regOf Tryd.f7 10).size = [0, 1, 2, 3, 4, 5, 6, 7] := by kernel_rfl
theorem R7_11_l : List.range (regOf Tryd.f7 11).size = [0, 1, 2] := by kernel_rfl
theorem R7_12_l : List.range (regOf Tryd.f7 12).size = [0, 1, 2, 3, 4] := by kernel_rfl
theorem body7 : Tryd.f7.body = some (.seq (.region 0 (regOf Tryd.f7 0) false) (.seq (.seq (.region 1 (regOf Tryd.f7 1) false) (.cond (Operand.tmp 46) (.seq (.region 2 (regOf Tryd.f7 2) false) (.ret)) (.skip))) (.seq (.region 3 (regOf Tryd.f7 3) false) (.seq (.block 0 (.seq (.region 4 (regOf Tryd.f7 4) false) (.cond (Operand.tmp 52) (.seq (.region 5 (regOf Tryd.f7 5) false) (.ret)) (.seq (.region 6 (regOf Tryd.f7 6) false) (.cond (Operand.tmp 58) (.seq (.region 7 (regOf Tryd.f7 7) false) (.ret)) (.seq (.region 8 (regOf Tryd.f7 8) false) (.cond (Operand.tmp 63) (.seq (.region 9 (regOf Tryd.f7 9) false) (.ret)) (.seq (.region 10 (regOf Tryd.f7 10) false) (.cond (Operand.tmp 71) (.seq (.region 11 (regOf Tryd.f7 11) false) (.ret)) (.skip)))))))))) (.seq (.region 12 (regOf Tryd.f7 12) false) (.ret)))))) := by kernel_rfl
theorem p7_0_0 : pj (regOf Tryd.f7 0) 0 = some (some 4, .box 24 (.tmp 0), 0, none) := by kernel_rfl
theorem p7_0_1 : pj (regOf Tryd.f7 0) 1 = some (some 8, .alloc 35, 0, none) := by kernel_rfl
theorem tZ35 : (Tryd.prog.info? 35).bind (·.zero) = some (Value.agg #[Value.int .i64 0, Value.int .i64 0, Value.bool false]) := by kernel_rfl
theorem p7_0_2 : pj (regOf Tryd.f7 0) 2 = some (some 9, .assign (.const (.int .i64 0)), 3, none) := by kernel_rfl
theorem p7_3_0 : pj (regOf Tryd.f7 3) 0 = some (some 48, .fieldAddr 24 (.tmp 4) 3, 0, none) := by kernel_rfl
theorem tS22 : (Tryd.prog.info? 22).map (·.size) = some 1 := by kernel_rfl
theorem p7_3_1 : pj (regOf Tryd.f7 3) 1 = some (some 49, .load 22 (.tmp 48), 22, none) := by kernel_rfl
theorem tA22 : (Tryd.prog.underlying 22).map aggD = some false := by kernel_rfl
theorem p7_3_2 : pj (regOf Tryd.f7 3) 2 = some (some 50, .move (.tmp 1), 3, none) := by kernel_rfl
theorem p7_3_3 : pj (regOf Tryd.f7 3) 3 = some (some 51, .call { callee := .value (.func 22), args := #[.tmp 49, .tmp 50], argTypes := #[22, 3] }, 3, none) := by kernel_rfl
theorem cl22 : callable Tryd.f22 = true := by kernel_rfl
theorem p7_3_4 : pj (regOf Tryd.f7 3) 4 = some (some 10, .assign (.tmp 51), 3, none) := by kernel_rfl
theorem p7_4_0 : pj (regOf Tryd.f7 4) 0 = some (some 53, .move (.tmp 1), 3, none) := by kernel_rfl
theorem p7_4_1 : pj (regOf Tryd.f7 4) 1 = some (some 54, .fieldAddr 24 (.tmp 4) 0, 0, none) := by kernel_rfl
theorem p7_4_2 : pj (regOf Tryd.f7 4) 2 = some (some 55, .load 3 (.tmp 54), 3, none) := by kernel_rfl
theorem p7_4_3 : pj (regOf Tryd.f7 4) 3 = some (some 56, .binOp .eql 3 (.tmp 53) (.tmp 55) 3, 4, none) := by kernel_rfl
theorem p7_4_4 : pj (regOf Tryd.f7 4) 4 = some (some 52, .assign (.tmp 56), 4, none) := by kernel_rfl
theorem p7_5_0 : pj (regOf Tryd.f7 5) 0 = some (some 57, .build 35 #[(0, .const (.int .i64 0)), (1, .const (.int .i64 (-1))), (2, .const (.bool false))], 35, none) := by kernel_rfl
theorem p7_5_1 : pj (regOf Tryd.f7 5) 1 = some (none, .store 35 (.tmp 8) (.tmp 57), 0, none) := by kernel_rfl
theorem tS35 : (Tryd.prog.info? 35).map (·.size) = some 3 := by kernel_rfl
theorem p7_5_2 : pj (regOf Tryd.f7 5) 2 = some (some 9, .assign (.const (.int .i64 0)), 3, none) := by kernel_rfl
theorem tA35 : (Tryd.prog.underlying 35).map aggD = some true := by kernel_rfl
theorem p7_6_0 : pj (regOf Tryd.f7 6) 0 = some (some 59, .move (.tmp 10), 3, none) := by kernel_rfl
theorem p7_6_1 : pj (regOf Tryd.f7 6) 1 = some (some 60, .binOp .geq 3 (.tmp 59) (.const (.int .i64 0)) 3, 4, none) := by kernel_rfl
theorem p7_6_2 : pj (regOf Tryd.f7 6) 2 = some (some 58, .assign (.tmp 60), 4, none) := by kernel_rfl
theorem p7_7_0 : pj (regOf Tryd.f7 7) 0 = some (some 61, .move (.tmp 10), 3, none) := by kernel_rfl
theorem p7_7_1 : pj (regOf Tryd.f7 7) 1 = some (some 62, .build 35 #[(0, .const (.int .i64 1)), (1, .tmp 61), (2, .const (.bool true))], 35, none) := by kernel_rfl
theorem p7_7_2 : pj (regOf Tryd.f7 7) 2 = some (none, .store 35 (.tmp 8) (.tmp 62), 0, none) := by kernel_rfl
theorem p7_7_3 : pj (regOf Tryd.f7 7) 3 = some (some 9, .assign (.const (.int .i64 0)), 3, none) := by kernel_rfl
theorem p7_8_0 : pj (regOf Tryd.f7 8) 0 = some (some 64, .move (.tmp 3), 4, none) := by kernel_rfl
theorem p7_8_1 : pj (regOf Tryd.f7 8) 1 = some (some 65, .move (.tmp 64), 4, none) := by kernel_rfl
theorem p7_8_2 : pj (regOf Tryd.f7 8) 2 = some (some 66, .move (.tmp 2), 3, some (1, true)) := by kernel_rfl
theorem g7_8_1 : dstOf (regOf Tryd.f7 8) 1 = some 65 := by kernel_rfl
theorem p7_8_3 : pj (regOf Tryd.f7 8) 3 = some (some 67, .binOp .geq 3 (.tmp 66) (.const (.int .i64 0)) 3, 4, some (1, true)) := by kernel_rfl
theorem p7_8_4 : pj (regOf Tryd.f7 8) 4 = some (some 68, .pick (.tmp 65) (.tmp 67) (.const (.bool false)), 4, none) := by kernel_rfl
theorem p7_8_5 : pj (regOf Tryd.f7 8) 5 = some (some 63, .assign (.tmp 68), 4, none) := by kernel_rfl
theorem p7_9_0 : pj (regOf Tryd.f7 9) 0 = some (some 69, .move (.tmp 2), 3, none) := by kernel_rfl
theorem p7_9_1 : pj (regOf Tryd.f7 9) 1 = some (some 70, .build 35 #[(0, .const (.int .i64 3)), (1, .tmp 69), (2, .const (.bool true))], 35, none) := by kernel_rfl
theorem p7_9_2 : pj (regOf Tryd.f7 9) 2 = some (none, .store 35 (.tmp 8) (.tmp 70), 0, none) := by kernel_rfl
theorem p7_9_3 : pj (regOf Tryd.f7 9) 3 = some (some 9, .assign (.const (.int .i64 0)), 3, none) := by kernel_rfl
theorem p7_10_0 : pj (regOf Tryd.f7 10) 0 = some (some 72, .fieldAddr 24 (.tmp 4) 2, 0, none) := by kernel_rfl
theorem p7_10_1 : pj (regOf Tryd.f7 10) 1 = some (some 73, .load 4 (.tmp 72), 4, none) := by kernel_rfl
theorem p7_10_2 : pj (regOf Tryd.f7 10) 2 = some (some 74, .move (.tmp 73), 4, none) := by kernel_rfl
theorem p7_10_3 : pj (regOf Tryd.f7 10) 3 = some (some 75, .fieldAddr 24 (.tmp 4) 1, 0, some (2, false)) := by kernel_rfl
theorem g7_10_2 : dstOf (regOf Tryd.f7 10) 2 = some 74 := by kernel_rfl
theorem p7_10_4 : pj (regOf Tryd.f7 10) 4 = some (some 76, .load 3 (.tmp 75), 3, some (2, false)) := by kernel_rfl
theorem p7_10_5 : pj (regOf Tryd.f7 10) 5 = some (some 77, .binOp .lss 3 (.tmp 76) (.const (.int .i64 0)) 3, 4, some (2, false)) := by kernel_rfl
theorem p7_10_6 : pj (regOf Tryd.f7 10) 6 = some (some 78, .pick (.tmp 74) (.const (.bool true)) (.tmp 77), 4, none) := by kernel_rfl
theorem p7_10_7 : pj (regOf Tryd.f7 10) 7 = some (some 71, .assign (.tmp 78), 4, none) := by kernel_rfl
theorem p7_11_0 : pj (regOf Tryd.f7 11) 0 = some (some 79, .build 35 #[(0, .const (.int .i64 4)), (1, .const (.int .i64 (-1))), (2, .const (.bool false))], 35, none) := by kernel_rfl
theorem p7_11_1 : pj (regOf Tryd.f7 11) 1 = some (none, .store 35 (.tmp 8) (.tmp 79), 0, none) := by kernel_rfl
theorem p7_11_2 : pj (regOf Tryd.f7 11) 2 = some (some 9, .assign (.const (.int .i64 0)), 3, none) := by kernel_rfl
theorem p7_12_0 : pj (regOf Tryd.f7 12) 0 = some (some 80, .fieldAddr 24 (.tmp 4) 1, 0, none) := by kernel_rfl
theorem p7_12_1 : pj (regOf Tryd.f7 12) 1 = some (some 81, .load 3 (.tmp 80), 3, none) := by kernel_rfl
theorem p7_12_2 : pj (regOf Tryd.f7 12) 2 = some (some 82, .build 35 #[(0, .const (.int .i64 2)), (1, .tmp 81), (2, .const (.bool false))], 35, none) := by kernel_rfl
theorem p7_12_3 : pj (regOf Tryd.f7 12) 3 = some (none, .store 35 (.tmp 8) (.tmp 82), 0, none) := by kernel_rfl
theorem p7_12_4 : pj (regOf Tryd.f7 12) 4 = some (some 9, .assign (.const (.int .i64 0)), 3, none) := by kernel_rfl
theorem p7_1_0 : pj (regOf Tryd.f7 1) 0 = some (some 11, .fieldAddr 24 (.tmp 4) 0, 0, none) := by kernel_rfl
theorem p7_1_1 : pj (regOf Tryd.f7 1) 1 = some (some 12, .load 3 (.tmp 11), 3, none) := by kernel_rfl
theorem p7_1_2 : pj (regOf Tryd.f7 1) 2 = some (some 13, .call { callee := .value (.func 8), args := #[.tmp 12], argTypes := #[3] }, 4, none) := by kernel_rfl
theorem cl8 : callable Tryd.f8 = true := by kernel_rfl
theorem p7_1_3 : pj (regOf Tryd.f7 1) 3 = some (some 14, .unOp .not 4 (.tmp 13), 4, none) := by kernel_rfl
theorem p7_1_4 : pj (regOf Tryd.f7 1) 4 = some (some 15, .move (.tmp 14), 4, none) := by kernel_rfl
theorem p7_1_5 : pj (regOf Tryd.f7 1) 5 = some (some 16, .fieldAddr 24 (.tmp 4) 1, 0, some (4, false)) := by kernel_rfl
theorem g7_1_4 : dstOf (regOf Tryd.f7 1) 4 = some 15 := by kernel_rfl
theorem p7_1_6 : pj (regOf Tryd.f7 1) 6 = some (some 17, .load 3 (.tmp 16), 3, some (4, false)) := by kernel_rfl
theorem p7_1_7 : pj (regOf Tryd.f7 1) 7 = some (some 18, .binOp .neq 3 (.tmp 17) (.const (.int .i64 (-1))) 3, 4, some (4, false)) := by kernel_rfl
theorem p7_1_8 : pj (regOf Tryd.f7 1) 8 = some (some 19, .move (.tmp 18), 4, some (4, false)) := by kernel_rfl
theorem p7_1_9 : pj (regOf Tryd.f7 1) 9 = some (some 20, .fieldAddr 24 (.tmp 4) 1, 0, some (8, true)) := by kernel_rfl
theorem g7_1_8 : dstOf (regOf Tryd.f7 1) 8 = some 19 := by kernel_rfl
theorem p7_1_10 : pj (regOf Tryd.f7 1) 10 = some (some 21, .load 3 (.tmp 20), 3, some (8, true)) := by kernel_rfl
theorem p7_1_11 : pj (regOf Tryd.f7 1) 11 = some (some 22, .call { callee := .value (.func 8), args := #[.tmp 21], argTypes := #[3] }, 4, some (8, true)) := by kernel_rfl
theorem p7_1_12 : pj (regOf Tryd.f7 1) 12 = some (some 23, .unOp .not 4 (.tmp 22), 4, some (8, true)) := by kernel_rfl
theorem p7_1_13 : pj (regOf Tryd.f7 1) 13 = some (some 24, .pick (.tmp 19) (.tmp 23) (.const (.bool false)), 4, some (4, false)) := by kernel_rfl
theorem p7_1_14 : pj (regOf Tryd.f7 1) 14 = some (some 25, .pick (.tmp 15) (.const (.bool true)) (.tmp 24), 4, none) := by kernel_rfl
theorem p7_1_15 : pj (regOf Tryd.f7 1) 15 = some (some 26, .move (.tmp 25), 4, none) := by kernel_rfl
theorem p7_1_16 : pj (regOf Tryd.f7 1) 16 = some (some 27, .fieldAddr 24 (.tmp 4) 1, 0, some (15, false)) := by kernel_rfl
theorem g7_1_15 : dstOf (regOf Tryd.f7 1) 15 = some 26 := by kernel_rfl
theorem p7_1_17 : pj (regOf Tryd.f7 1) 17 = some (some 28, .load 3 (.tmp 27), 3, some (15, false)) := by kernel_rfl
theorem p7_1_18 : pj (regOf Tryd.f7 1) 18 = some (some 29, .fieldAddr 24 (.tmp 4) 0, 0, some (15, false)) := by kernel_rfl
theorem p7_1_19 : pj (regOf Tryd.f7 1) 19 = some (some 30, .load 3 (.tmp 29), 3, some (15, false)) := by kernel_rfl
theorem p7_1_20 : pj (regOf Tryd.f7 1) 20 = some (some 31, .binOp .eql 3 (.tmp 28) (.tmp 30) 3, 4, some (15, false)) := by kernel_rfl
theorem p7_1_21 : pj (regOf Tryd.f7 1) 21 = some (some 32, .pick (.tmp 26) (.const (.bool true)) (.tmp 31), 4, none) := by kernel_rfl
theorem p7_1_22 : pj (regOf Tryd.f7 1) 22 = some (some 33, .move (.tmp 32), 4, none) := by kernel_rfl
theorem p7_1_23 : pj (regOf Tryd.f7 1) 23 = some (some 34, .move (.tmp 1), 3, some (22, false)) := by kernel_rfl
theorem g7_1_22 : dstOf (regOf Tryd.f7 1) 22 = some 33 := by kernel_rfl
theorem p7_1_24 : pj (regOf Tryd.f7 1) 24 = some (some 35, .call { callee := .value (.func 8), args := #[.tmp 34], argTypes := #[3] }, 4, some (22, false)) := by kernel_rfl
theorem p7_1_25 : pj (regOf Tryd.f7 1) 25 = some (some 36, .unOp .not 4 (.tmp 35), 4, some (22, false)) := by kernel_rfl
theorem p7_1_26 : pj (regOf Tryd.f7 1) 26 = some (some 37, .pick (.tmp 33) (.const (.bool true)) (.tmp 36), 4, none) := by kernel_rfl
theorem p7_1_27 : pj (regOf Tryd.f7 1) 27 = some (some 38, .move (.tmp 37), 4, none) := by kernel_rfl
theorem p7_1_28 : pj (regOf Tryd.f7 1) 28 = some (some 39, .move (.tmp 2), 3, some (27, false)) := by kernel_rfl
theorem g7_1_27 : dstOf (regOf Tryd.f7 1) 27 = some 38 := by kernel_rfl
theorem p7_1_29 : pj (regOf Tryd.f7 1) 29 = some (some 40, .binOp .neq 3 (.tmp 39) (.const (.int .i64 (-1))) 3, 4, some (27, false)) := by kernel_rfl
theorem p7_1_30 : pj (regOf Tryd.f7 1) 30 = some (some 41, .move (.tmp 40), 4, some (27, false)) := by kernel_rfl
theorem p7_1_31 : pj (regOf Tryd.f7 1) 31 = some (some 42, .move (.tmp 2), 3, some (30, true)) := by kernel_rfl
theorem g7_1_30 : dstOf (regOf Tryd.f7 1) 30 = some 41 := by kernel_rfl
theorem p7_1_32 : pj (regOf Tryd.f7 1) 32 = some (some 43, .call { callee := .value (.func 8), args := #[.tmp 42], argTypes := #[3] }, 4, some (30, true)) := by kernel_rfl
theorem p7_1_33 : pj (regOf Tryd.f7 1) 33 = some (some 44, .unOp .not 4 (.tmp 43), 4, some (30, true)) := by kernel_rfl
theorem p7_1_34 : pj (regOf Tryd.f7 1) 34 = some (some 45, .pick (.tmp 41) (.tmp 44) (.const (.bool false)), 4, some (27, false)) := by kernel_rfl
theorem p7_1_35 : pj (regOf Tryd.f7 1) 35 = some (some 46, .pick (.tmp 38) (.const (.bool true)) (.tmp 45), 4, none) := by kernel_rfl
theorem p7_2_0 : pj (regOf Tryd.f7 2) 0 = some (some 47, .build 35 #[], 35, none) := by kernel_rfl
theorem p7_2_1 : pj (regOf Tryd.f7 2) 1 = some (none, .store 35 (.tmp 8) (.tmp 47), 0, none) := by kernel_rfl
theorem p7_2_2 : pj (regOf Tryd.f7 2) 2 = some (some 9, .assign (.const (.int .i64 1)), 3, none) := by kernel_rfl
set_option maxHeartbeats 4000000 in
theorem dnext (A : Option Addr) (c : Nat) (L : List R4) (nd pf : Int) (rt : Bool) (tg fr : Int) (dn : Bool) (w : World) (hok : ∀ o ∈ L, okR o = true) (hR : Rv.RdV w A L.length 4 (flR L)) (hll : L.length ≤ 1000) : Calls Tryd.prog 7 #[.agg #[.int .i64 nd, .int .i64 pf, .bool rt, .slice A L.length c], .int .i64 tg, .int .i64 fr, .bool dn] w fun e w' => e = .returned (hopV (nextF nd pf rt (viaR L tg) tg fr dn)) ∧ Kp w w' (fun _ => False) := by
  have K_0 := Kp.refl w (fun _ => False)
  have O_L := hR
  have hvg := via_ge hok tg
  refine enter (args := [Value.agg #[Value.int .i64 nd, Value.int .i64 pf, Value.bool rt, Value.slice A L.length c], Value.int .i64 tg, Value.int .i64 fr, Value.bool dn]) (n := 83) Tryd.func7 body7 rfl rfl rfl ?_
  intro a hE
  refine c_reg R7_0_l ?_
  refine p_cons (s_box p7_0_0 hE wn_none rfl rfl ?_)
  clear hE a; intro g1 w2 z3 B_g1 hk a hE
  replace B_g1 : w2.heap[g1]? = some (.cells #[Value.int .i64 nd, Value.int .i64 pf, Value.bool rt, Value.slice A L.length c] 24 (0, 0)) := B_g1
  have z_0_g1 := Nat.le_trans K_0.kept.1 z3
  have Nb_L_g1 : ¬ OB A g1 := fun h => by have := (Rv.rdv_ob O_L h).2; omega
  replace O_L := Rv.rdv_keep O_L hk (fun _ _ h => h)
  replace K_0 := K_0.then_ hk (fun _ h => h.elim)
  clear hk
  refine p_cons (s_alloc p7_0_1 hE wn_none rfl tZ35 ?_)
  clear hE a; intro g4 w5 z6 B_g4 hk a hE
  replace B_g4 : w5.heap[g4]? = some (.cells #[Value.int .i64 0, Value.int .i64 0, Value.bool false] 35 (0, 0)) := B_g4
  have n_g1_g4 : g1 ≠ g4 := ne_new B_g1 z6
  have z_0_g4 := Nat.le_trans K_0.kept.1 z6
  have Nb_L_g4 : ¬ OB A g4 := fun h => by have := (Rv.rdv_ob O_L h).2; omega
  replace B_g1 := kp_blk B_g1 hk (fun h => h)
  replace O_L := Rv.rdv_keep O_L hk (fun _ _ h => h)
  replace K_0 := K_0.then_ hk (fun _ h => h.elim)
  clear hk
  refine q0 p7_0_2 hE (st_assign rfl) ?_
  clear hE a; intro a hE
  refine p_nil ?_
  refine x_norm ?_
  refine Rv.join_have (y := .seq (.region 3 (regOf Tryd.f7 3) false) (.seq (.block 0 (.seq (.region 4 (regOf Tryd.f7 4) false) (.cond (Operand.tmp 52) (.seq (.region 5 (regOf Tryd.f7 5) false) (.ret)) (.seq (.region 6 (regOf Tryd.f7 6) false) (.cond (Operand.tmp 58) (.seq (.region 7 (regOf Tryd.f7 7) false) (.ret)) (.seq (.region 8 (regOf Tryd.f7 8) false) (.cond (Operand.tmp 63) (.seq (.region 9 (regOf Tryd.f7 9) false) (.ret)) (.seq (.region 10 (regOf Tryd.f7 10) false) (.cond (Operand.tmp 71) (.seq (.region 11 (regOf Tryd.f7 11) false) (.ret)) (.skip)))))))))) (.seq (.region 12 (regOf Tryd.f7 12) false) (.ret)))) (I := fun a W => En 83 a [(0, Value.agg #[Value.int .i64 nd, Value.int .i64 pf, Value.bool rt, Value.slice A L.length c]), (1, Value.int .i64 tg), (2, Value.int .i64 fr), (3, Value.bool dn), (4, Value.pointer (some ⟨g1, 0, none⟩)), (8, Value.pointer (some ⟨g4, 0, none⟩))] ∧ (rightV nd pf && nodeB tg && perB fr) = true ∧ W.heap[g1]? = some (.cells #[Value.int .i64 nd, Value.int .i64 pf, Value.bool rt, Value.slice A L.length c] 24 (0, 0)) ∧ W.heap[g4]? = some (.cells #[Value.int .i64 0, Value.int .i64 0, Value.bool false] 35 (0, 0)) ∧ Rv.RdV W A L.length 4 (flR L) ∧ ¬ OB A g1 ∧ ¬ OB A g4 ∧ Kp w W (fun _ => False)) ?_ (fun jn3 => ?_)
  ·
    clear hE a
    rintro a w7 ⟨hE, e0, B_g1, B_g4, O_L, Nb_L_g1, Nb_L_g4, K_0⟩
    refine c_reg R7_3_l ?_
    refine q0 p7_3_0 hE (st_fieldAddr Tryd.underlying24 rfl tS22 rfl rfl) ?_
    clear hE a; intro a hE
    refine q0 p7_3_1 hE (st_load1 tA22 rfl ((blk_cell B_g1 3).trans rfl)) ?_
    clear hE a; intro a hE
    refine q0 p7_3_2 hE (st_move rfl) ?_
    clear hE a; intro a hE
    refine p_cons (s_call (xs := [Operand.tmp 49, Operand.tmp 50]) (args := [Value.slice A L.length c, Value.int .i64 tg]) p7_3_3 hE wn_none rfl rfl Tryd.func22 cl22 (via_any A c L tg _ O_L hll) ?_)
    rintro e w8 ⟨rfl, hk⟩
    replace B_g1 := kp_blk B_g1 hk (fun h => h)
    replace B_g4 := kp_blk B_g4 hk (fun h => h)
    replace O_L := Rv.rdv_keep O_L hk (fun _ _ h => h)
    replace K_0 := K_0.then_ hk (fun _ h => h.elim)
    refine ⟨_, rfl, ?_⟩
    clear hE a; intro a hE
    refine q0 p7_3_4 hE (st_assign rfl) ?_
    clear hE a; intro a hE
    refine p_nil ?_
    refine x_norm ?_
    refine wp_seq ?_
    refine wp_block ?_
    refine c_reg R7_4_l ?_
    refine q0 p7_4_0 hE (st_move rfl) ?_
    clear hE a; intro a hE
    refine q0 p7_4_1 hE (st_fieldAddr Tryd.underlying24 rfl tS3 rfl rfl) ?_
    clear hE a; intro a hE
    refine q0 p7_4_2 hE (st_load1 tA3 rfl ((blk_cell B_g1 0).trans rfl)) ?_
    clear hE a; intro a hE
    rcases Decidable.em (tg = nd) with hc9 | hc9
    ·
      refine p_cons (s_still (v := Value.bool true) p7_4_3 hE wn_none rfl (st_eql rfl rfl (decide_eq_true hc9)) ?_)
      clear hE a; intro a hE
      refine q0 p7_4_4 hE (st_assign rfl) ?_
      clear hE a; intro a hE
      refine p_nil ?_
      refine x_norm ?_
      refine c_cond (t := true) hE rfl ?_
      refine c_reg R7_5_l ?_
      refine q0 p7_5_0 hE (st_build (xs := [(0, Operand.const (Value.int IntKind.i64 0)), (1, Operand.const (Value.int IntKind.i64 (-1))), (2, Operand.const (Value.bool false))]) (vs := [(0, Value.int .i64 0), (1, Value.int .i64 (-1)), (2, Value.bool false)]) (cs := #[Value.int .i64 0, Value.int .i64 (-1), Value.bool false]) rfl (by kernel_rfl)) ?_
      clear hE a; intro a hE
      refine p_cons (s_store (off := 0) (k := 3) (cs' := #[Value.int .i64 0, Value.int .i64 (-1), Value.bool false]) p7_5_1 hE wn_none tS35 rfl rfl rfl rfl B_g4 (Nat.le_of_ble_eq_true rfl) rfl ?_)
      intro w10 B_g4' hk
      replace B_g1 := kp_blk B_g1 hk n_g1_g4
      replace O_L := Rv.rdv_keep O_L hk (fun k hk2 h2 => Nb_L_g4 (by rw [show k = g4 from h2] at hk2; exact hk2))
      replace K_0 := K_0.then_ hk (fun k h => by rw [show k = g4 from h]; exact Or.inr z_0_g4)
      replace B_g4 := B_g4'
      clear hk
      refine q0 p7_5_2 hE (st_assign rfl) ?_
      clear hE a; intro a hE
      refine p_nil ?_
      refine x_norm ?_
      refine wp_ret ?_
      refine x_retB ?_
      refine x_ret ?_
      refine ret_list (rs := [.cell 8 35, .tmp 9]) (vs := [Value.agg #[Value.int .i64 0, Value.int .i64 (-1), Value.bool false], Value.int .i64 0]) rfl hE (.cellN (us := [Value.int .i64 0, Value.int .i64 (-1), Value.bool false]) tA35 tS35 rfl B_g4 rfl (.tmp rfl .nil)) rfl ?_
      exact ⟨by unfold nextF; rw [if_pos e0, if_pos hc9]; rfl, K_0⟩
    ·
      refine p_cons (s_still (v := Value.bool false) p7_4_3 hE wn_none rfl (st_eql rfl rfl (decide_eq_false hc9)) ?_)
      clear hE a; intro a hE
      refine q0 p7_4_4 hE (st_assign rfl) ?_
      clear hE a; intro a hE
      refine p_nil ?_
      refine x_norm ?_
      refine c_cond (t := false) hE rfl ?_
      refine c_reg R7_6_l ?_
      refine q0 p7_6_0 hE (st_move rfl) ?_
      clear hE a; intro a hE
      rcases Decidable.em (0 ≤ (viaR L tg)) with hc11 | hc11
      ·
        refine p_cons (s_still (v := Value.bool true) p7_6_1 hE wn_none rfl (st_geq rfl rfl (decide_eq_true hc11)) ?_)
        clear hE a; intro a hE
        refine q0 p7_6_2 hE (st_assign rfl) ?_
        clear hE a; intro a hE
        refine p_nil ?_
        refine x_norm ?_
        refine c_cond (t := true) hE rfl ?_
        refine c_reg R7_7_l ?_
        refine q0 p7_7_0 hE (st_move rfl) ?_
        clear hE a; intro a hE
        refine q0 p7_7_1 hE (st_build (xs := [(0, Operand.const (Value.int IntKind.i64 1)), (1, Operand.tmp 61), (2, Operand.const (Value.bool true))]) (vs := [(0, Value.int .i64 1), (1, Value.int .i64 (viaR L tg)), (2, Value.bool true)]) (cs := #[Value.int .i64 1, Value.int .i64 (viaR L tg), Value.bool true]) rfl (by kernel_rfl)) ?_
        clear hE a; intro a hE
        refine p_cons (s_store (off := 0) (k := 3) (cs' := #[Value.int .i64 1, Value.int .i64 (viaR L tg), Value.bool true]) p7_7_2 hE wn_none tS35 rfl rfl rfl rfl B_g4 (Nat.le_of_ble_eq_true rfl) rfl ?_)
        intro w12 B_g4' hk
        replace B_g1 := kp_blk B_g1 hk n_g1_g4
        replace O_L := Rv.rdv_keep O_L hk (fun k hk2 h2 => Nb_L_g4 (by rw [show k = g4 from h2] at hk2; exact hk2))
        replace K_0 := K_0.then_ hk (fun k h => by rw [show k = g4 from h]; exact Or.inr z_0_g4)
        replace B_g4 := B_g4'
        clear hk
        refine q0 p7_7_3 hE (st_assign rfl) ?_
        clear hE a; intro a hE
        refine p_nil ?_
        refine x_norm ?_
        refine wp_ret ?_
        refine x_retB ?_
        refine x_ret ?_
        refine ret_list (rs := [.cell 8 35, .tmp 9]) (vs := [Value.agg #[Value.int .i64 1, Value.int .i64 (viaR L tg), Value.bool true], Value.int .i64 0]) rfl hE (.cellN (us := [Value.int .i64 1, Value.int .i64 (viaR L tg), Value.bool true]) tA35 tS35 rfl B_g4 rfl (.tmp rfl .nil)) rfl ?_
        exact ⟨by unfold nextF; rw [if_pos e0, if_neg hc9, if_pos (by omega)]; rfl, K_0⟩
      ·
        refine p_cons (s_still (v := Value.bool false) p7_6_1 hE wn_none rfl (st_geq rfl rfl (decide_eq_false hc11)) ?_)
        clear hE a; intro a hE
        refine q0 p7_6_2 hE (st_assign rfl) ?_
        clear hE a; intro a hE
        refine p_nil ?_
        refine x_norm ?_
        refine c_cond (t := false) hE rfl ?_
        refine c_reg R7_8_l ?_
        refine q0 p7_8_0 hE (st_move rfl) ?_
        clear hE a; intro a hE
        refine q0 p7_8_1 hE (st_move rfl) ?_
        clear hE a; intro a hE
        rcases Bool.eq_false_or_eq_true dn with hb13 | hb13
        ·
          rw [hb13] at hE
          refine p_cons (s_still p7_8_2 hE (wn_some g7_8_1 rfl rfl) rfl (st_move rfl) ?_)
          clear hE a; intro a hE
          rcases Decidable.em (0 ≤ fr) with hc14 | hc14
          ·
            refine p_cons (s_still (v := Value.bool true) p7_8_3 hE (wn_some g7_8_1 rfl rfl) rfl (st_geq rfl rfl (decide_eq_true hc14)) ?_)
            clear hE a; intro a hE
            refine q0 p7_8_4 hE (st_pick rfl rfl) ?_
            clear hE a; intro a hE
            refine q0 p7_8_5 hE (st_assign rfl) ?_
            clear hE a; intro a hE
            refine p_nil ?_
            refine x_norm ?_
            refine c_cond (t := true) hE rfl ?_
            refine c_reg R7_9_l ?_
            refine q0 p7_9_0 hE (st_move rfl) ?_
            clear hE a; intro a hE
            refine q0 p7_9_1 hE (st_build (xs := [(0, Operand.const (Value.int IntKind.i64 3)), (1, Operand.tmp 69), (2, Operand.const (Value.bool true))]) (vs := [(0, Value.int .i64 3), (1, Value.int .i64 fr), (2, Value.bool true)]) (cs := #[Value.int .i64 3, Value.int .i64 fr, Value.bool true]) rfl (by kernel_rfl)) ?_
            clear hE a; intro a hE
            refine p_cons (s_store (off := 0) (k := 3) (cs' := #[Value.int .i64 3, Value.int .i64 fr, Value.bool true]) p7_9_2 hE wn_none tS35 rfl rfl rfl rfl B_g4 (Nat.le_of_ble_eq_true rfl) rfl ?_)
            intro w15 B_g4' hk
            replace B_g1 := kp_blk B_g1 hk n_g1_g4
            replace O_L := Rv.rdv_keep O_L hk (fun k hk2 h2 => Nb_L_g4 (by rw [show k = g4 from h2] at hk2; exact hk2))
            replace K_0 := K_0.then_ hk (fun k h => by rw [show k = g4 from h]; exact Or.inr z_0_g4)
            replace B_g4 := B_g4'
            clear hk
            refine q0 p7_9_3 hE (st_assign rfl) ?_
            clear hE a; intro a hE
            refine p_nil ?_
            refine x_norm ?_
            refine wp_ret ?_
            refine x_retB ?_
            refine x_ret ?_
            refine ret_list (rs := [.cell 8 35, .tmp 9]) (vs := [Value.agg #[Value.int .i64 3, Value.int .i64 fr, Value.bool true], Value.int .i64 0]) rfl hE (.cellN (us := [Value.int .i64 3, Value.int .i64 fr, Value.bool true]) tA35 tS35 rfl B_g4 rfl (.tmp rfl .nil)) rfl ?_
            have hn9 : perB fr = true := by
              have := e0
              simp only [Bool.and_eq_true] at this
              exact this.2
            have hv9 : rightV nd pf = true := by
              have := e0
              simp only [Bool.and_eq_true] at this
              exact this.1.1
            have hb1 := per_b hn9
            have hb2 := right_b hv9
            have e1 : (dn && !decide (fr = -1)) = true := by rw [hb13, decide_eq_false (by omega)]; rfl
            exact ⟨by unfold nextF; rw [if_pos e0, if_neg hc9, if_neg (by omega), if_pos e1]; rfl, K_0⟩
          ·
            refine p_cons (s_still (v := Value.bool false) p7_8_3 hE (wn_some g7_8_1 rfl rfl) rfl (st_geq rfl rfl (decide_eq_false hc14)) ?_)
            clear hE a; intro a hE
            refine q0 p7_8_4 hE (st_pick rfl rfl) ?_
            clear hE a; intro a hE
            refine q0 p7_8_5 hE (st_assign rfl) ?_
            clear hE a; intro a hE
            refine p_nil ?_
            refine x_norm ?_
            refine c_cond (t := false) hE rfl ?_
            refine c_reg R7_10_l ?_
            refine q0 p7_10_0 hE (st_fieldAddr Tryd.underlying24 rfl tS4 rfl rfl) ?_
            clear hE a; intro a hE
            refine q0 p7_10_1 hE (st_load1 tA4 rfl ((blk_cell B_g1 2).trans rfl)) ?_
            clear hE a; intro a hE
            refine q0 p7_10_2 hE (st_move rfl) ?_
            clear hE a; intro a hE
            rcases Bool.eq_false_or_eq_true rt with hb16 | hb16
            ·
              rw [hb16] at hE
              refine p_cons (s_skip p7_10_3 hE (wn_some g7_10_2 rfl rfl) rfl ?_)
              clear hE a; intro a hE
              refine p_cons (s_skip p7_10_4 hE (wn_some g7_10_2 rfl rfl) rfl ?_)
              clear hE a; intro a hE
              refine p_cons (s_skip p7_10_5 hE (wn_some g7_10_2 rfl rfl) rfl ?_)
              clear hE a; intro a hE
              refine q0 p7_10_6 hE (st_pick rfl rfl) ?_
              clear hE a; intro a hE
              refine q0 p7_10_7 hE (st_assign rfl) ?_
              clear hE a; intro a hE
              refine p_nil ?_
              refine x_norm ?_
              refine c_cond (t := true) hE rfl ?_
              refine c_reg R7_11_l ?_
              refine q0 p7_11_0 hE (st_build (xs := [(0, Operand.const (Value.int IntKind.i64 4)), (1, Operand.const (Value.int IntKind.i64 (-1))), (2, Operand.const (Value.bool false))]) (vs := [(0, Value.int .i64 4), (1, Value.int .i64 (-1)), (2, Value.bool false)]) (cs := #[Value.int .i64 4, Value.int .i64 (-1), Value.bool false]) rfl (by kernel_rfl)) ?_
              clear hE a; intro a hE
              refine p_cons (s_store (off := 0) (k := 3) (cs' := #[Value.int .i64 4, Value.int .i64 (-1), Value.bool false]) p7_11_1 hE wn_none tS35 rfl rfl rfl rfl B_g4 (Nat.le_of_ble_eq_true rfl) rfl ?_)
              intro w17 B_g4' hk
              replace B_g1 := kp_blk B_g1 hk n_g1_g4
              replace O_L := Rv.rdv_keep O_L hk (fun k hk2 h2 => Nb_L_g4 (by rw [show k = g4 from h2] at hk2; exact hk2))
              replace K_0 := K_0.then_ hk (fun k h => by rw [show k = g4 from h]; exact Or.inr z_0_g4)
              replace B_g4 := B_g4'
              clear hk
              refine q0 p7_11_2 hE (st_assign rfl) ?_
              clear hE a; intro a hE
              refine p_nil ?_
              refine x_norm ?_
              refine wp_ret ?_
              refine x_retB ?_
              refine x_ret ?_
              refine ret_list (rs := [.cell 8 35, .tmp 9]) (vs := [Value.agg #[Value.int .i64 4, Value.int .i64 (-1), Value.bool false], Value.int .i64 0]) rfl hE (.cellN (us := [Value.int .i64 4, Value.int .i64 (-1), Value.bool false]) tA35 tS35 rfl B_g4 rfl (.tmp rfl .nil)) rfl ?_
              have hn9 : perB fr = true := by
                have := e0
                simp only [Bool.and_eq_true] at this
                exact this.2
              have hv9 : rightV nd pf = true := by
                have := e0
                simp only [Bool.and_eq_true] at this
                exact this.1.1
              have hb1 := per_b hn9
              have hb2 := right_b hv9
              have e1 : ¬ (dn && !decide (fr = -1)) = true := by
                rw [hb13, decide_eq_true (by omega)]; simp
              have e2 : (rt || decide (pf = -1)) = true := by rw [hb16]; rfl
              exact ⟨by unfold nextF; rw [if_pos e0, if_neg hc9, if_neg (by omega), if_neg e1, if_pos e2]; rfl, K_0⟩
            ·
              rw [hb16] at hE
              refine p_cons (s_still p7_10_3 hE (wn_some g7_10_2 rfl rfl) rfl (st_fieldAddr Tryd.underlying24 rfl tS3 rfl rfl) ?_)
              clear hE a; intro a hE
              refine p_cons (s_still p7_10_4 hE (wn_some g7_10_2 rfl rfl) rfl (st_load1 tA3 rfl ((blk_cell B_g1 1).trans rfl)) ?_)
              clear hE a; intro a hE
              rcases Decidable.em (pf < 0) with hc18 | hc18
              ·
                refine p_cons (s_still (v := Value.bool true) p7_10_5 hE (wn_some g7_10_2 rfl rfl) rfl (st_lss rfl rfl (decide_eq_true hc18)) ?_)
                clear hE a; intro a hE
                refine q0 p7_10_6 hE (st_pick rfl rfl) ?_
                clear hE a; intro a hE
                refine q0 p7_10_7 hE (st_assign rfl) ?_
                clear hE a; intro a hE
                refine p_nil ?_
                refine x_norm ?_
                refine c_cond (t := true) hE rfl ?_
                refine c_reg R7_11_l ?_
                refine q0 p7_11_0 hE (st_build (xs := [(0, Operand.const (Value.int IntKind.i64 4)), (1, Operand.const (Value.int IntKind.i64 (-1))), (2, Operand.const (Value.bool false))]) (vs := [(0, Value.int .i64 4), (1, Value.int .i64 (-1)), (2, Value.bool false)]) (cs := #[Value.int .i64 4, Value.int .i64 (-1), Value.bool false]) rfl (by kernel_rfl)) ?_
                clear hE a; intro a hE
                refine p_cons (s_store (off := 0) (k := 3) (cs' := #[Value.int .i64 4, Value.int .i64 (-1), Value.bool false]) p7_11_1 hE wn_none tS35 rfl rfl rfl rfl B_g4 (Nat.le_of_ble_eq_true rfl) rfl ?_)
                intro w19 B_g4' hk
                replace B_g1 := kp_blk B_g1 hk n_g1_g4
                replace O_L := Rv.rdv_keep O_L hk (fun k hk2 h2 => Nb_L_g4 (by rw [show k = g4 from h2] at hk2; exact hk2))
                replace K_0 := K_0.then_ hk (fun k h => by rw [show k = g4 from h]; exact Or.inr z_0_g4)
                replace B_g4 := B_g4'
                clear hk
                refine q0 p7_11_2 hE (st_assign rfl) ?_
                clear hE a; intro a hE
                refine p_nil ?_
                refine x_norm ?_
                refine wp_ret ?_
                refine x_retB ?_
                refine x_ret ?_
                refine ret_list (rs := [.cell 8 35, .tmp 9]) (vs := [Value.agg #[Value.int .i64 4, Value.int .i64 (-1), Value.bool false], Value.int .i64 0]) rfl hE (.cellN (us := [Value.int .i64 4, Value.int .i64 (-1), Value.bool false]) tA35 tS35 rfl B_g4 rfl (.tmp rfl .nil)) rfl ?_
                have hn9 : perB fr = true := by
                  have := e0
                  simp only [Bool.and_eq_true] at this
                  exact this.2
                have hv9 : rightV nd pf = true := by
                  have := e0
                  simp only [Bool.and_eq_true] at this
                  exact this.1.1
                have hb1 := per_b hn9
                have hb2 := right_b hv9
                have e1 : ¬ (dn && !decide (fr = -1)) = true := by
                  rw [hb13, decide_eq_true (by omega)]; simp
                have e2 : (rt || decide (pf = -1)) = true := by rw [hb16, decide_eq_true (by omega)]; rfl
                exact ⟨by unfold nextF; rw [if_pos e0, if_neg hc9, if_neg (by omega), if_neg e1, if_pos e2]; rfl, K_0⟩
              ·
                refine p_cons (s_still (v := Value.bool false) p7_10_5 hE (wn_some g7_10_2 rfl rfl) rfl (st_lss rfl rfl (decide_eq_false hc18)) ?_)
                clear hE a; intro a hE
                refine q0 p7_10_6 hE (st_pick rfl rfl) ?_
                clear hE a; intro a hE
                refine q0 p7_10_7 hE (st_assign rfl) ?_
                clear hE a; intro a hE
                refine p_nil ?_
                refine x_norm ?_
                refine c_cond (t := false) hE rfl ?_
                refine wp_skip ?_
                refine x_normB ?_
                refine x_norm ?_
                refine c_reg R7_12_l ?_
                refine q0 p7_12_0 hE (st_fieldAddr Tryd.underlying24 rfl tS3 rfl rfl) ?_
                clear hE a; intro a hE
                refine q0 p7_12_1 hE (st_load1 tA3 rfl ((blk_cell B_g1 1).trans rfl)) ?_
                clear hE a; intro a hE
                refine q0 p7_12_2 hE (st_build (xs := [(0, Operand.const (Value.int IntKind.i64 2)), (1, Operand.tmp 81), (2, Operand.const (Value.bool false))]) (vs := [(0, Value.int .i64 2), (1, Value.int .i64 pf), (2, Value.bool false)]) (cs := #[Value.int .i64 2, Value.int .i64 pf, Value.bool false]) rfl (by kernel_rfl)) ?_
                clear hE a; intro a hE
                refine p_cons (s_store (off := 0) (k := 3) (cs' := #[Value.int .i64 2, Value.int .i64 pf, Value.bool false]) p7_12_3 hE wn_none tS35 rfl rfl rfl rfl B_g4 (Nat.le_of_ble_eq_true rfl) rfl ?_)
                intro w20 B_g4' hk
                replace B_g1 := kp_blk B_g1 hk n_g1_g4
                replace O_L := Rv.rdv_keep O_L hk (fun k hk2 h2 => Nb_L_g4 (by rw [show k = g4 from h2] at hk2; exact hk2))
                replace K_0 := K_0.then_ hk (fun k h => by rw [show k = g4 from h]; exact Or.inr z_0_g4)
                replace B_g4 := B_g4'
                clear hk
                refine q0 p7_12_4 hE (st_assign rfl) ?_
                clear hE a; intro a hE
                refine p_nil ?_
                refine x_norm ?_
                refine wp_ret ?_
                refine ret_list (rs := [.cell 8 35, .tmp 9]) (vs := [Value.agg #[Value.int .i64 2, Value.int .i64 pf, Value.bool false], Value.int .i64 0]) rfl hE (.cellN (us := [Value.int .i64 2, Value.int .i64 pf, Value.bool false]) tA35 tS35 rfl B_g4 rfl (.tmp rfl .nil)) rfl ?_
                have hn9 : perB fr = true := by
                  have := e0
                  simp only [Bool.and_eq_true] at this
                  exact this.2
                have hv9 : rightV nd pf = true := by
                  have := e0
                  simp only [Bool.and_eq_true] at this
                  exact this.1.1
                have hb1 := per_b hn9
                have hb2 := right_b hv9
                have e1 : ¬ (dn && !decide (fr = -1)) = true := by
                  rw [hb13, decide_eq_true (by omega)]; simp
                have e2 : ¬ (rt || decide (pf = -1)) = true := by rw [hb16, decide_eq_false (by omega)]; simp
                exact ⟨by unfold nextF; rw [if_pos e0, if_neg hc9, if_neg (by omega), if_neg e1, if_neg e2]; rfl, K_0⟩
        ·
          rw [hb13] at hE
          refine p_cons (s_skip p7_8_2 hE (wn_some g7_8_1 rfl rfl) rfl ?_)
          clear hE a; intro a hE
          refine p_cons (s_skip p7_8_3 hE (wn_some g7_8_1 rfl rfl) rfl ?_)
          clear hE a; intro a hE
          refine q0 p7_8_4 hE (st_pick rfl rfl) ?_
          clear hE a; intro a hE
          refine q0 p7_8_5 hE (st_assign rfl) ?_
          clear hE a; intro a hE
          refine p_nil ?_
          refine x_norm ?_
          refine c_cond (t := false) hE rfl ?_
          refine c_reg R7_10_l ?_
          refine q0 p7_10_0 hE (st_fieldAddr Tryd.underlying24 rfl tS4 rfl rfl) ?_
          clear hE a; intro a hE
          refine q0 p7_10_1 hE (st_load1 tA4 rfl ((blk_cell B_g1 2).trans rfl)) ?_
          clear hE a; intro a hE
          refine q0 p7_10_2 hE (st_move rfl) ?_
          clear hE a; intro a hE
          rcases Bool.eq_false_or_eq_true rt with hb21 | hb21
          ·
            rw [hb21] at hE
            refine p_cons (s_skip p7_10_3 hE (wn_some g7_10_2 rfl rfl) rfl ?_)
            clear hE a; intro a hE
            refine p_cons (s_skip p7_10_4 hE (wn_some g7_10_2 rfl rfl) rfl ?_)
            clear hE a; intro a hE
            refine p_cons (s_skip p7_10_5 hE (wn_some g7_10_2 rfl rfl) rfl ?_)
            clear hE a; intro a hE
            refine q0 p7_10_6 hE (st_pick rfl rfl) ?_
            clear hE a; intro a hE
            refine q0 p7_10_7 hE (st_assign rfl) ?_
            clear hE a; intro a hE
            refine p_nil ?_
            refine x_norm ?_
            refine c_cond (t := true) hE rfl ?_
            refine c_reg R7_11_l ?_
            refine q0 p7_11_0 hE (st_build (xs := [(0, Operand.const (Value.int IntKind.i64 4)), (1, Operand.const (Value.int IntKind.i64 (-1))), (2, Operand.const (Value.bool false))]) (vs := [(0, Value.int .i64 4), (1, Value.int .i64 (-1)), (2, Value.bool false)]) (cs := #[Value.int .i64 4, Value.int .i64 (-1), Value.bool false]) rfl (by kernel_rfl)) ?_
            clear hE a; intro a hE
            refine p_cons (s_store (off := 0) (k := 3) (cs' := #[Value.int .i64 4, Value.int .i64 (-1), Value.bool false]) p7_11_1 hE wn_none tS35 rfl rfl rfl rfl B_g4 (Nat.le_of_ble_eq_true rfl) rfl ?_)
            intro w22 B_g4' hk
            replace B_g1 := kp_blk B_g1 hk n_g1_g4
            replace O_L := Rv.rdv_keep O_L hk (fun k hk2 h2 => Nb_L_g4 (by rw [show k = g4 from h2] at hk2; exact hk2))
            replace K_0 := K_0.then_ hk (fun k h => by rw [show k = g4 from h]; exact Or.inr z_0_g4)
            replace B_g4 := B_g4'
            clear hk
            refine q0 p7_11_2 hE (st_assign rfl) ?_
            clear hE a; intro a hE
            refine p_nil ?_
            refine x_norm ?_
            refine wp_ret ?_
            refine x_retB ?_
            refine x_ret ?_
            refine ret_list (rs := [.cell 8 35, .tmp 9]) (vs := [Value.agg #[Value.int .i64 4, Value.int .i64 (-1), Value.bool false], Value.int .i64 0]) rfl hE (.cellN (us := [Value.int .i64 4, Value.int .i64 (-1), Value.bool false]) tA35 tS35 rfl B_g4 rfl (.tmp rfl .nil)) rfl ?_
            have hn9 : perB fr = true := by
              have := e0
              simp only [Bool.and_eq_true] at this
              exact this.2
            have hv9 : rightV nd pf = true := by
              have := e0
              simp only [Bool.and_eq_true] at this
              exact this.1.1
            have hb1 := per_b hn9
            have hb2 := right_b hv9
            have e1 : ¬ (dn && !decide (fr = -1)) = true := by
              rw [hb13]; simp
            have e2 : (rt || decide (pf = -1)) = true := by rw [hb21]; rfl
            exact ⟨by unfold nextF; rw [if_pos e0, if_neg hc9, if_neg (by omega), if_neg e1, if_pos e2]; rfl, K_0⟩
          ·
            rw [hb21] at hE
            refine p_cons (s_still p7_10_3 hE (wn_some g7_10_2 rfl rfl) rfl (st_fieldAddr Tryd.underlying24 rfl tS3 rfl rfl) ?_)
            clear hE a; intro a hE
            refine p_cons (s_still p7_10_4 hE (wn_some g7_10_2 rfl rfl) rfl (st_load1 tA3 rfl ((blk_cell B_g1 1).trans rfl)) ?_)
            clear hE a; intro a hE
            rcases Decidable.em (pf < 0) with hc23 | hc23
            ·
              refine p_cons (s_still (v := Value.bool true) p7_10_5 hE (wn_some g7_10_2 rfl rfl) rfl (st_lss rfl rfl (decide_eq_true hc23)) ?_)
              clear hE a; intro a hE
              refine q0 p7_10_6 hE (st_pick rfl rfl) ?_
              clear hE a; intro a hE
              refine q0 p7_10_7 hE (st_assign rfl) ?_
              clear hE a; intro a hE
              refine p_nil ?_
              refine x_norm ?_
              refine c_cond (t := true) hE rfl ?_
              refine c_reg R7_11_l ?_
              refine q0 p7_11_0 hE (st_build (xs := [(0, Operand.const (Value.int IntKind.i64 4)), (1, Operand.const (Value.int IntKind.i64 (-1))), (2, Operand.const (Value.bool false))]) (vs := [(0, Value.int .i64 4), (1, Value.int .i64 (-1)), (2, Value.bool false)]) (cs := #[Value.int .i64 4, Value.int .i64 (-1), Value.bool false]) rfl (by kernel_rfl)) ?_
              clear hE a; intro a hE
              refine p_cons (s_store (off := 0) (k := 3) (cs' := #[Value.int .i64 4, Value.int .i64 (-1), Value.bool false]) p7_11_1 hE wn_none tS35 rfl rfl rfl rfl B_g4 (Nat.le_of_ble_eq_true rfl) rfl ?_)
              intro w24 B_g4' hk
              replace B_g1 := kp_blk B_g1 hk n_g1_g4
              replace O_L := Rv.rdv_keep O_L hk (fun k hk2 h2 => Nb_L_g4 (by rw [show k = g4 from h2] at hk2; exact hk2))
              replace K_0 := K_0.then_ hk (fun k h => by rw [show k = g4 from h]; exact Or.inr z_0_g4)
              replace B_g4 := B_g4'
              clear hk
              refine q0 p7_11_2 hE (st_assign rfl) ?_
              clear hE a; intro a hE
              refine p_nil ?_
              refine x_norm ?_
              refine wp_ret ?_
              refine x_retB ?_
              refine x_ret ?_
              refine ret_list (rs := [.cell 8 35, .tmp 9]) (vs := [Value.agg #[Value.int .i64 4, Value.int .i64 (-1), Value.bool false], Value.int .i64 0]) rfl hE (.cellN (us := [Value.int .i64 4, Value.int .i64 (-1), Value.bool false]) tA35 tS35 rfl B_g4 rfl (.tmp rfl .nil)) rfl ?_
              have hn9 : perB fr = true := by
                have := e0
                simp only [Bool.and_eq_true] at this
                exact this.2
              have hv9 : rightV nd pf = true := by
                have := e0
                simp only [Bool.and_eq_true] at this
                exact this.1.1
              have hb1 := per_b hn9
              have hb2 := right_b hv9
              have e1 : ¬ (dn && !decide (fr = -1)) = true := by
                rw [hb13]; simp
              have e2 : (rt || decide (pf = -1)) = true := by rw [hb21, decide_eq_true (by omega)]; rfl
              exact ⟨by unfold nextF; rw [if_pos e0, if_neg hc9, if_neg (by omega), if_neg e1, if_pos e2]; rfl, K_0⟩
            ·
              refine p_cons (s_still (v := Value.bool false) p7_10_5 hE (wn_some g7_10_2 rfl rfl) rfl (st_lss rfl rfl (decide_eq_false hc23)) ?_)
              clear hE a; intro a hE
              refine q0 p7_10_6 hE (st_pick rfl rfl) ?_
              clear hE a; intro a hE
              refine q0 p7_10_7 hE (st_assign rfl) ?_
              clear hE a; intro a hE
              refine p_nil ?_
              refine x_norm ?_
              refine c_cond (t := false) hE rfl ?_
              refine wp_skip ?_
              refine x_normB ?_
              refine x_norm ?_
              refine c_reg R7_12_l ?_
              refine q0 p7_12_0 hE (st_fieldAddr Tryd.underlying24 rfl tS3 rfl rfl) ?_
              clear hE a; intro a hE
              refine q0 p7_12_1 hE (st_load1 tA3 rfl ((blk_cell B_g1 1).trans rfl)) ?_
              clear hE a; intro a hE
              refine q0 p7_12_2 hE (st_build (xs := [(0, Operand.const (Value.int IntKind.i64 2)), (1, Operand.tmp 81), (2, Operand.const (Value.bool false))]) (vs := [(0, Value.int .i64 2), (1, Value.int .i64 pf), (2, Value.bool false)]) (cs := #[Value.int .i64 2, Value.int .i64 pf, Value.bool false]) rfl (by kernel_rfl)) ?_
              clear hE a; intro a hE
              refine p_cons (s_store (off := 0) (k := 3) (cs' := #[Value.int .i64 2, Value.int .i64 pf, Value.bool false]) p7_12_3 hE wn_none tS35 rfl rfl rfl rfl B_g4 (Nat.le_of_ble_eq_true rfl) rfl ?_)
              intro w25 B_g4' hk
              replace B_g1 := kp_blk B_g1 hk n_g1_g4
              replace O_L := Rv.rdv_keep O_L hk (fun k hk2 h2 => Nb_L_g4 (by rw [show k = g4 from h2] at hk2; exact hk2))
              replace K_0 := K_0.then_ hk (fun k h => by rw [show k = g4 from h]; exact Or.inr z_0_g4)
              replace B_g4 := B_g4'
              clear hk
              refine q0 p7_12_4 hE (st_assign rfl) ?_
              clear hE a; intro a hE
              refine p_nil ?_
              refine x_norm ?_
              refine wp_ret ?_
              refine ret_list (rs := [.cell 8 35, .tmp 9]) (vs := [Value.agg #[Value.int .i64 2, Value.int .i64 pf, Value.bool false], Value.int .i64 0]) rfl hE (.cellN (us := [Value.int .i64 2, Value.int .i64 pf, Value.bool false]) tA35 tS35 rfl B_g4 rfl (.tmp rfl .nil)) rfl ?_
              have hn9 : perB fr = true := by
                have := e0
                simp only [Bool.and_eq_true] at this
                exact this.2
              have hv9 : rightV nd pf = true := by
                have := e0
                simp only [Bool.and_eq_true] at this
                exact this.1.1
              have hb1 := per_b hn9
              have hb2 := right_b hv9
              have e1 : ¬ (dn && !decide (fr = -1)) = true := by
                rw [hb13]; simp
              have e2 : ¬ (rt || decide (pf = -1)) = true := by rw [hb21, decide_eq_false (by omega)]; simp
              exact ⟨by unfold nextF; rw [if_pos e0, if_neg hc9, if_neg (by omega), if_neg e1, if_neg e2]; rfl, K_0⟩
  ·
    refine wp_seq ?_
    refine c_reg R7_1_l ?_
    refine q0 p7_1_0 hE (st_fieldAddr Tryd.underlying24 rfl tS3 rfl rfl) ?_
    clear hE a; intro a hE
    refine q0 p7_1_1 hE (st_load1 tA3 rfl ((blk_cell B_g1 0).trans rfl)) ?_
    clear hE a; intro a hE
    refine p_cons (s_call (xs := [Operand.tmp 12]) (args := [Value.int .i64 nd]) p7_1_2 hE wn_none rfl rfl Tryd.func8 cl8 (vnode nd _) ?_)
    rintro e w26 ⟨rfl, hk⟩
    replace B_g1 := kp_blk B_g1 hk (fun h => h)
    replace B_g4 := kp_blk B_g4 hk (fun h => h)
    replace O_L := Rv.rdv_keep O_L hk (fun _ _ h => h)
    replace K_0 := K_0.then_ hk (fun _ h => h.elim)
    refine ⟨_, rfl, ?_⟩
    clear hE a; intro a hE
    refine q0 p7_1_3 hE (st_not rfl rfl) ?_
    clear hE a; intro a hE
    refine q0 p7_1_4 hE (st_move rfl) ?_
    clear hE a; intro a hE
    rcases Bool.eq_false_or_eq_true (nodeB nd) with hb27 | hb27
    ·
      rw [hb27] at hE
      refine p_cons (s_still p7_1_5 hE (wn_some g7_1_4 rfl rfl) rfl (st_fieldAddr Tryd.underlying24 rfl tS3 rfl rfl) ?_)
      clear hE a; intro a hE
      refine p_cons (s_still p7_1_6 hE (wn_some g7_1_4 rfl rfl) rfl (st_load1 tA3 rfl ((blk_cell B_g1 1).trans rfl)) ?_)
      clear hE a; intro a hE
      rcases Decidable.em (pf = -1) with hc28 | hc28
      ·
        refine p_cons (s_still (v := Value.bool false) p7_1_7 hE (wn_some g7_1_4 rfl rfl) rfl (st_neq rfl rfl (by rw [decide_eq_true hc28]; rfl)) ?_)
        clear hE a; intro a hE
        refine p_cons (s_still p7_1_8 hE (wn_some g7_1_4 rfl rfl) rfl (st_move rfl) ?_)
        clear hE a; intro a hE
        refine p_cons (s_skip p7_1_9 hE (wn_some g7_1_8 rfl rfl) rfl ?_)
        clear hE a; intro a hE
        refine p_cons (s_skip p7_1_10 hE (wn_some g7_1_8 rfl rfl) rfl ?_)
        clear hE a; intro a hE
        refine p_cons (s_skip p7_1_11 hE (wn_some g7_1_8 rfl rfl) rfl ?_)
        clear hE a; intro a hE
        refine p_cons (s_skip p7_1_12 hE (wn_some g7_1_8 rfl rfl) rfl ?_)
        clear hE a; intro a hE
        refine p_cons (s_still p7_1_13 hE (wn_some g7_1_4 rfl rfl) rfl (st_pick rfl rfl) ?_)
        clear hE a; intro a hE
        refine q0 p7_1_14 hE (st_pick rfl rfl) ?_
        clear hE a; intro a hE
        refine q0 p7_1_15 hE (st_move rfl) ?_
        clear hE a; intro a hE
        refine p_cons (s_still p7_1_16 hE (wn_some g7_1_15 rfl rfl) rfl (st_fieldAddr Tryd.underlying24 rfl tS3 rfl rfl) ?_)
        clear hE a; intro a hE
        refine p_cons (s_still p7_1_17 hE (wn_some g7_1_15 rfl rfl) rfl (st_load1 tA3 rfl ((blk_cell B_g1 1).trans rfl)) ?_)
        clear hE a; intro a hE
        refine p_cons (s_still p7_1_18 hE (wn_some g7_1_15 rfl rfl) rfl (st_fieldAddr Tryd.underlying24 rfl tS3 rfl rfl) ?_)
        clear hE a; intro a hE
        refine p_cons (s_still p7_1_19 hE (wn_some g7_1_15 rfl rfl) rfl (st_load1 tA3 rfl ((blk_cell B_g1 0).trans rfl)) ?_)
        clear hE a; intro a hE
        rcases Decidable.em (pf = nd) with hc29 | hc29
        ·
          refine p_cons (s_still (v := Value.bool true) p7_1_20 hE (wn_some g7_1_15 rfl rfl) rfl (st_eql rfl rfl (decide_eq_true hc29)) ?_)
          clear hE a; intro a hE
          refine q0 p7_1_21 hE (st_pick rfl rfl) ?_
          clear hE a; intro a hE
          refine q0 p7_1_22 hE (st_move rfl) ?_
          clear hE a; intro a hE
          refine p_cons (s_skip p7_1_23 hE (wn_some g7_1_22 rfl rfl) rfl ?_)
          clear hE a; intro a hE
          refine p_cons (s_skip p7_1_24 hE (wn_some g7_1_22 rfl rfl) rfl ?_)
          clear hE a; intro a hE
          refine p_cons (s_skip p7_1_25 hE (wn_some g7_1_22 rfl rfl) rfl ?_)
          clear hE a; intro a hE
          refine q0 p7_1_26 hE (st_pick rfl rfl) ?_
          clear hE a; intro a hE
          refine q0 p7_1_27 hE (st_move rfl) ?_
          clear hE a; intro a hE
          refine p_cons (s_skip p7_1_28 hE (wn_some g7_1_27 rfl rfl) rfl ?_)
          clear hE a; intro a hE
          refine p_cons (s_skip p7_1_29 hE (wn_some g7_1_27 rfl rfl) rfl ?_)
          clear hE a; intro a hE
          refine p_cons (s_skip p7_1_30 hE (wn_some g7_1_27 rfl rfl) rfl ?_)
          clear hE a; intro a hE
          refine p_cons (s_skip p7_1_31 hE (wn_undef g7_1_30 rfl) rfl ?_)
          clear hE a; intro a hE
          refine p_cons (s_skip p7_1_32 hE (wn_undef g7_1_30 rfl) rfl ?_)
          clear hE a; intro a hE
          refine p_cons (s_skip p7_1_33 hE (wn_undef g7_1_30 rfl) rfl ?_)
          clear hE a; intro a hE
          refine p_cons (s_skip p7_1_34 hE (wn_some g7_1_27 rfl rfl) rfl ?_)
          clear hE a; intro a hE
          refine q0 p7_1_35 hE (st_pick rfl rfl) ?_
          clear hE a; intro a hE
          refine p_nil ?_
          refine x_norm ?_
          refine c_cond (t := true) hE rfl ?_
          refine c_reg R7_2_l ?_
          refine q0 p7_2_0 hE (st_build (xs := []) (vs := []) (cs := #[Value.int .i64 0, Value.int .i64 0, Value.bool false]) rfl (by kernel_rfl)) ?_
          clear hE a; intro a hE
          refine p_cons (s_store (off := 0) (k := 3) (cs' := #[Value.int .i64 0, Value.int .i64 0, Value.bool false]) p7_2_1 hE wn_none tS35 rfl rfl rfl rfl B_g4 (Nat.le_of_ble_eq_true rfl) rfl ?_)
          intro w30 B_g4' hk
          replace B_g1 := kp_blk B_g1 hk n_g1_g4
          replace O_L := Rv.rdv_keep O_L hk (fun k hk2 h2 => Nb_L_g4 (by rw [show k = g4 from h2] at hk2; exact hk2))
          replace K_0 := K_0.then_ hk (fun k h => by rw [show k = g4 from h]; exact Or.inr z_0_g4)
          replace B_g4 := B_g4'
          clear hk
          refine q0 p7_2_2 hE (st_assign rfl) ?_
          clear hE a; intro a hE
          refine p_nil ?_
          refine x_norm ?_
          refine wp_ret ?_
          refine x_ret ?_
          refine ret_list (rs := [.cell 8 35, .tmp 9]) (vs := [Value.agg #[Value.int .i64 0, Value.int .i64 0, Value.bool false], Value.int .i64 1]) rfl hE (.cellN (us := [Value.int .i64 0, Value.int .i64 0, Value.bool false]) tA35 tS35 rfl B_g4 rfl (.tmp rfl .nil)) rfl ?_
          have e0 : (rightV nd pf && nodeB tg && perB fr) = false := by
            unfold rightV perB
            simp only [hb27, decide_eq_true hc28, decide_eq_true hc29, Bool.and_true, Bool.true_and, Bool.and_false, Bool.false_and, Bool.or_true, Bool.true_or, Bool.or_false, Bool.false_or, Bool.not_true, Bool.not_false, Bool.and_self, Bool.or_self]
          exact ⟨by unfold nextF; rw [e0]; rfl, K_0⟩
        ·
          refine p_cons (s_still (v := Value.bool false) p7_1_20 hE (wn_some g7_1_15 rfl rfl) rfl (st_eql rfl rfl (decide_eq_false hc29)) ?_)
          clear hE a; intro a hE
          refine q0 p7_1_21 hE (st_pick rfl rfl) ?_
          clear hE a; intro a hE
          refine q0 p7_1_22 hE (st_move rfl) ?_
          clear hE a; intro a hE
          refine p_cons (s_still p7_1_23 hE (wn_some g7_1_22 rfl rfl) rfl (st_move rfl) ?_)
          clear hE a; intro a hE
          refine p_cons (s_call (xs := [Operand.tmp 34]) (args := [Value.int .i64 tg]) p7_1_24 hE (wn_some g7_1_22 rfl rfl) rfl rfl Tryd.func8 cl8 (vnode tg _) ?_)
          rintro e w31 ⟨rfl, hk⟩
          replace B_g1 := kp_blk B_g1 hk (fun h => h)
          replace B_g4 := kp_blk B_g4 hk (fun h => h)
          replace O_L := Rv.rdv_keep O_L hk (fun _ _ h => h)
          replace K_0 := K_0.then_ hk (fun _ h => h.elim)
          refine ⟨_, rfl, ?_⟩
          clear hE a; intro a hE
          refine p_cons (s_still p7_1_25 hE (wn_some g7_1_22 rfl rfl) rfl (st_not rfl rfl) ?_)
          clear hE a; intro a hE
          refine q0 p7_1_26 hE (st_pick rfl rfl) ?_
          clear hE a; intro a hE
          refine q0 p7_1_27 hE (st_move rfl) ?_
          clear hE a; intro a hE
          rcases Bool.eq_false_or_eq_true (nodeB tg) with hb32 | hb32
          ·
            rw [hb32] at hE
            refine p_cons (s_still p7_1_28 hE (wn_some g7_1_27 rfl rfl) rfl (st_move rfl) ?_)
            clear hE a; intro a hE
            rcases Decidable.em (fr = -1) with hc33 | hc33
            ·
              refine p_cons (s_still (v := Value.bool false) p7_1_29 hE (wn_some g7_1_27 rfl rfl) rfl (st_neq rfl rfl (by rw [decide_eq_true hc33]; rfl)) ?_)
              clear hE a; intro a hE
              refine p_cons (s_still p7_1_30 hE (wn_some g7_1_27 rfl rfl) rfl (st_move rfl) ?_)
              clear hE a; intro a hE
              refine p_cons (s_skip p7_1_31 hE (wn_some g7_1_30 rfl rfl) rfl ?_)
              clear hE a; intro a hE
              refine p_cons (s_skip p7_1_32 hE (wn_some g7_1_30 rfl rfl) rfl ?_)
              clear hE a; intro a hE
              refine p_cons (s_skip p7_1_33 hE (wn_some g7_1_30 rfl rfl) rfl ?_)
              clear hE a; intro a hE
              refine p_cons (s_still p7_1_34 hE (wn_some g7_1_27 rfl rfl) rfl (st_pick rfl rfl) ?_)
              clear hE a; intro a hE
              refine q0 p7_1_35 hE (st_pick rfl rfl) ?_
              clear hE a; intro a hE
              refine p_nil ?_
              refine x_norm ?_
              refine c_cond (t := false) hE rfl ?_
              refine wp_skip ?_
              refine x_norm ?_
              exact jn3 _ _ ⟨En.sub hE ⟨rfl, rfl, rfl, rfl, rfl, rfl, trivial⟩, (by unfold rightV perB; simp only [hb27, hb32, decide_eq_true hc28, decide_eq_false hc29, decide_eq_true hc33, Bool.and_true, Bool.true_and, Bool.and_false, Bool.false_and, Bool.or_true, Bool.true_or, Bool.or_false, Bool.false_or, Bool.not_true, Bool.not_false, Bool.and_self, Bool.or_self]), B_g1, B_g4, O_L, Nb_L_g1, Nb_L_g4, K_0⟩
            ·
              refine p_cons (s_still (v := Value.bool true) p7_1_29 hE (wn_some g7_1_27 rfl rfl) rfl (st_neq rfl rfl (by rw [decide_eq_false hc33]; rfl)) ?_)
              clear hE a; intro a hE
              refine p_cons (s_still p7_1_30 hE (wn_some g7_1_27 rfl rfl) rfl (st_move rfl) ?_)
              clear hE a; intro a hE
              refine p_cons (s_still p7_1_31 hE (wn_some g7_1_30 rfl rfl) rfl (st_move rfl) ?_)
              clear hE a; intro a hE
              refine p_cons (s_call (xs := [Operand.tmp 42]) (args := [Value.int .i64 fr]) p7_1_32 hE (wn_some g7_1_30 rfl rfl) rfl rfl Tryd.func8 cl8 (vnode fr _) ?_)
              rintro e w34 ⟨rfl, hk⟩
              replace B_g1 := kp_blk B_g1 hk (fun h => h)
              replace B_g4 := kp_blk B_g4 hk (fun h => h)
              replace O_L := Rv.rdv_keep O_L hk (fun _ _ h => h)
              replace K_0 := K_0.then_ hk (fun _ h => h.elim)
              refine ⟨_, rfl, ?_⟩
              clear hE a; intro a hE
              refine p_cons (s_still p7_1_33 hE (wn_some g7_1_30 rfl rfl) rfl (st_not rfl rfl) ?_)
              clear hE a; intro a hE
              refine p_cons (s_still p7_1_34 hE (wn_some g7_1_27 rfl rfl) rfl (st_pick rfl rfl) ?_)
              clear hE a; intro a hE
              refine q0 p7_1_35 hE (st_pick rfl rfl) ?_
              clear hE a; intro a hE
              refine p_nil ?_
              refine x_norm ?_
              rcases Bool.eq_false_or_eq_true (nodeB fr) with hb35 | hb35
              ·
                rw [hb35] at hE
                refine c_cond (t := false) hE rfl ?_
                refine wp_skip ?_
                refine x_norm ?_
                exact jn3 _ _ ⟨En.sub hE ⟨rfl, rfl, rfl, rfl, rfl, rfl, trivial⟩, (by unfold rightV perB; simp only [hb27, hb32, hb35, decide_eq_true hc28, decide_eq_false hc29, decide_eq_false hc33, Bool.and_true, Bool.true_and, Bool.and_false, Bool.false_and, Bool.or_true, Bool.true_or, Bool.or_false, Bool.false_or, Bool.not_true, Bool.not_false, Bool.and_self, Bool.or_self]), B_g1, B_g4, O_L, Nb_L_g1, Nb_L_g4, K_0⟩
              ·
                rw [hb35] at hE
                refine c_cond (t := true) hE rfl ?_
                refine c_reg R7_2_l ?_
                refine q0 p7_2_0 hE (st_build (xs := []) (vs := []) (cs := #[Value.int .i64 0, Value.int .i64 0, Value.bool false]) rfl (by kernel_rfl)) ?_
                clear hE a; intro a hE
                refine p_cons (s_store (off := 0) (k := 3) (cs' := #[Value.int .i64 0, Value.int .i64 0, Value.bool false]) p7_2_1 hE wn_none tS35 rfl rfl rfl rfl B_g4 (Nat.le_of_ble_eq_true rfl) rfl ?_)
                intro w36 B_g4' hk
                replace B_g1 := kp_blk B_g1 hk n_g1_g4
                replace O_L := Rv.rdv_keep O_L hk (fun k hk2 h2 => Nb_L_g4 (by rw [show k = g4 from h2] at hk2; exact hk2))
                replace K_0 := K_0.then_ hk (fun k h => by rw [show k = g4 from h]; exact Or.inr z_0_g4)
                replace B_g4 := B_g4'
                clear hk
                refine q0 p7_2_2 hE (st_assign rfl) ?_
                clear hE a; intro a hE
                refine p_nil ?_
                refine x_norm ?_
                refine wp_ret ?_
                refine x_ret ?_
                refine ret_list (rs := [.cell 8 35, .tmp 9]) (vs := [Value.agg #[Value.int .i64 0, Value.int .i64 0, Value.bool false], Value.int .i64 1]) rfl hE (.cellN (us := [Value.int .i64 0, Value.int .i64 0, Value.bool false]) tA35 tS35 rfl B_g4 rfl (.tmp rfl .nil)) rfl ?_
                have e0 : (rightV nd pf && nodeB tg && perB fr) = false := by
                  unfold rightV perB
                  simp only [hb27, hb32, hb35, decide_eq_true hc28, decide_eq_false hc29, decide_eq_false hc33, Bool.and_true, Bool.true_and, Bool.and_false, Bool.false_and, Bool.or_true, Bool.true_or, Bool.or_false, Bool.false_or, Bool.not_true, Bool.not_false, Bool.and_self, Bool.or_self]
                exact ⟨by unfold nextF; rw [e0]; rfl, K_0⟩
          ·
            rw [hb32] at hE
            refine p_cons (s_skip p7_1_28 hE (wn_some g7_1_27 rfl rfl) rfl ?_)
            clear hE a; intro a hE
            refine p_cons (s_skip p7_1_29 hE (wn_some g7_1_27 rfl rfl) rfl ?_)
            clear hE a; intro a hE
            refine p_cons (s_skip p7_1_30 hE (wn_some g7_1_27 rfl rfl) rfl ?_)
            clear hE a; intro a hE
            refine p_cons (s_skip p7_1_31 hE (wn_undef g7_1_30 rfl) rfl ?_)
            clear hE a; intro a hE
            refine p_cons (s_skip p7_1_32 hE (wn_undef g7_1_30 rfl) rfl ?_)
            clear hE a; intro a hE
            refine p_cons (s_skip p7_1_33 hE (wn_undef g7_1_30 rfl) rfl ?_)
            clear hE a; intro a hE
            refine p_cons (s_skip p7_1_34 hE (wn_some g7_1_27 rfl rfl) rfl ?_)
            clear hE a; intro a hE
            refine q0 p7_1_35 hE (st_pick rfl rfl) ?_
            clear hE a; intro a hE
            refine p_nil ?_
            refine x_norm ?_
            refine c_cond (t := true) hE rfl ?_
            refine c_reg R7_2_l ?_
            refine q0 p7_2_0 hE (st_build (xs := []) (vs := []) (cs := #[Value.int .i64 0, Value.int .i64 0, Value.bool false]) rfl (by kernel_rfl)) ?_
            clear hE a; intro a hE
            refine p_cons (s_store (off := 0) (k := 3) (cs' := #[Value.int .i64 0, Value.int .i64 0, Value.bool false]) p7_2_1 hE wn_none tS35 rfl rfl rfl rfl B_g4 (Nat.le_of_ble_eq_true rfl) rfl ?_)
            intro w37 B_g4' hk
            replace B_g1 := kp_blk B_g1 hk n_g1_g4
            replace O_L := Rv.rdv_keep O_L hk (fun k hk2 h2 => Nb_L_g4 (by rw [show k = g4 from h2] at hk2; exact hk2))
            replace K_0 := K_0.then_ hk (fun k h => by rw [show k = g4 from h]; exact Or.inr z_0_g4)
            replace B_g4 := B_g4'
            clear hk
            refine q0 p7_2_2 hE (st_assign rfl) ?_
            clear hE a; intro a hE
            refine p_nil ?_
            refine x_norm ?_
            refine wp_ret ?_
            refine x_ret ?_
            refine ret_list (rs := [.cell 8 35, .tmp 9]) (vs := [Value.agg #[Value.int .i64 0, Value.int .i64 0, Value.bool false], Value.int .i64 1]) rfl hE (.cellN (us := [Value.int .i64 0, Value.int .i64 0, Value.bool false]) tA35 tS35 rfl B_g4 rfl (.tmp rfl .nil)) rfl ?_
            have e0 : (rightV nd pf && nodeB tg && perB fr) = false := by
              unfold rightV perB
              simp only [hb27, hb32, decide_eq_true hc28, decide_eq_false hc29, Bool.and_true, Bool.true_and, Bool.and_false, Bool.false_and, Bool.or_true, Bool.true_or, Bool.or_false, Bool.false_or, Bool.not_true, Bool.not_false, Bool.and_self, Bool.or_self]
            exact ⟨by unfold nextF; rw [e0]; rfl, K_0⟩
      ·
        refine p_cons (s_still (v := Value.bool true) p7_1_7 hE (wn_some g7_1_4 rfl rfl) rfl (st_neq rfl rfl (by rw [decide_eq_false hc28]; rfl)) ?_)
        clear hE a; intro a hE
        refine p_cons (s_still p7_1_8 hE (wn_some g7_1_4 rfl rfl) rfl (st_move rfl) ?_)
        clear hE a; intro a hE
        refine p_cons (s_still p7_1_9 hE (wn_some g7_1_8 rfl rfl) rfl (st_fieldAddr Tryd.underlying24 rfl tS3 rfl rfl) ?_)
        clear hE a; intro a hE
        refine p_cons (s_still p7_1_10 hE (wn_some g7_1_8 rfl rfl) rfl (st_load1 tA3 rfl ((blk_cell B_g1 1).trans rfl)) ?_)
        clear hE a; intro a hE
        refine p_cons (s_call (xs := [Operand.tmp 21]) (args := [Value.int .i64 pf]) p7_1_11 hE (wn_some g7_1_8 rfl rfl) rfl rfl Tryd.func8 cl8 (vnode pf _) ?_)
        rintro e w38 ⟨rfl, hk⟩
        replace B_g1 := kp_blk B_g1 hk (fun h => h)
        replace B_g4 := kp_blk B_g4 hk (fun h => h)
        replace O_L := Rv.rdv_keep O_L hk (fun _ _ h => h)
        replace K_0 := K_0.then_ hk (fun _ h => h.elim)
        refine ⟨_, rfl, ?_⟩
        clear hE a; intro a hE
        refine p_cons (s_still p7_1_12 hE (wn_some g7_1_8 rfl rfl) rfl (st_not rfl rfl) ?_)
        clear hE a; intro a hE
        refine p_cons (s_still p7_1_13 hE (wn_some g7_1_4 rfl rfl) rfl (st_pick rfl rfl) ?_)
        clear hE a; intro a hE
        refine q0 p7_1_14 hE (st_pick rfl rfl) ?_
        clear hE a; intro a hE
        refine q0 p7_1_15 hE (st_move rfl) ?_
        clear hE a; intro a hE
        rcases Bool.eq_false_or_eq_true (nodeB pf) with hb39 | hb39
        ·
          rw [hb39] at hE
          refine p_cons (s_still p7_1_16 hE (wn_some g7_1_15 rfl rfl) rfl (st_fieldAddr Tryd.underlying24 rfl tS3 rfl rfl) ?_)
          clear hE a; intro a hE
          refine p_cons (s_still p7_1_17 hE (wn_some g7_1_15 rfl rfl) rfl (st_load1 tA3 rfl ((blk_cell B_g1 1).trans rfl)) ?_)
          clear hE a; intro a hE
          refine p_cons (s_still p7_1_18 hE (wn_some g7_1_15 rfl rfl) rfl (st_fieldAddr Tryd.underlying24 rfl tS3 rfl rfl) ?_)
          clear hE a; intro a hE
          refine p_cons (s_still p7_1_19 hE (wn_some g7_1_15 rfl rfl) rfl (st_load1 tA3 rfl ((blk_cell B_g1 0).trans rfl)) ?_)
          clear hE a; intro a hE
          rcases Decidable.em (pf = nd) with hc40 | hc40
          ·
            refine p_cons (s_still (v := Value.bool true) p7_1_20 hE (wn_some g7_1_15 rfl rfl) rfl (st_eql rfl rfl (decide_eq_true hc40)) ?_)
            clear hE a; intro a hE
            refine q0 p7_1_21 hE (st_pick rfl rfl) ?_
            clear hE a; intro a hE
            refine q0 p7_1_22 hE (st_move rfl) ?_
            clear hE a; intro a hE
            refine p_cons (s_skip p7_1_23 hE (wn_some g7_1_22 rfl rfl) rfl ?_)
            clear hE a; intro a hE
            refine p_cons (s_skip p7_1_24 hE (wn_some g7_1_22 rfl rfl) rfl ?_)
            clear hE a; intro a hE
            refine p_cons (s_skip p7_1_25 hE (wn_some g7_1_22 rfl rfl) rfl ?_)
            clear hE a; intro a hE
            refine q0 p7_1_26 hE (st_pick rfl rfl) ?_
            clear hE a; intro a hE
            refine q0 p7_1_27 hE (st_move rfl) ?_
            clear hE a; intro a hE
            refine p_cons (s_skip p7_1_28 hE (wn_some g7_1_27 rfl rfl) rfl ?_)
            clear hE a; intro a hE
            refine p_cons (s_skip p7_1_29 hE (wn_some g7_1_27 rfl rfl) rfl ?_)
            clear hE a; intro a hE
            refine p_cons (s_skip p7_1_30 hE (wn_some g7_1_27 rfl rfl) rfl ?_)
            clear hE a; intro a hE
            refine p_cons (s_skip p7_1_31 hE (wn_undef g7_1_30 rfl) rfl ?_)
            clear hE a; intro a hE
            refine p_cons (s_skip p7_1_32 hE (wn_undef g7_1_30 rfl) rfl ?_)
            clear hE a; intro a hE
            refine p_cons (s_skip p7_1_33 hE (wn_undef g7_1_30 rfl) rfl ?_)
            clear hE a; intro a hE
            refine p_cons (s_skip p7_1_34 hE (wn_some g7_1_27 rfl rfl) rfl ?_)
            clear hE a; intro a hE
            refine q0 p7_1_35 hE (st_pick rfl rfl) ?_
            clear hE a; intro a hE
            refine p_nil ?_
            refine x_norm ?_
            refine c_cond (t := true) hE rfl ?_
            refine c_reg R7_2_l ?_
            refine q0 p7_2_0 hE (st_build (xs := []) (vs := []) (cs := #[Value.int .i64 0, Value.int .i64 0, Value.bool false]) rfl (by kernel_rfl)) ?_
            clear hE a; intro a hE
            refine p_cons (s_store (off := 0) (k := 3) (cs' := #[Value.int .i64 0, Value.int .i64 0, Value.bool false]) p7_2_1 hE wn_none tS35 rfl rfl rfl rfl B_g4 (Nat.le_of_ble_eq_true rfl) rfl ?_)
            intro w41 B_g4' hk
            replace B_g1 := kp_blk B_g1 hk n_g1_g4
            replace O_L := Rv.rdv_keep O_L hk (fun k hk2 h2 => Nb_L_g4 (by rw [show k = g4 from h2] at hk2; exact hk2))
            replace K_0 := K_0.then_ hk (fun k h => by rw [show k = g4 from h]; exact Or.inr z_0_g4)
            replace B_g4 := B_g4'
            clear hk
            refine q0 p7_2_2 hE (st_assign rfl) ?_
            clear hE a; intro a hE
            refine p_nil ?_
            refine x_norm ?_
            refine wp_ret ?_
            refine x_ret ?_
            refine ret_list (rs := [.cell 8 35, .tmp 9]) (vs := [Value.agg #[Value.int .i64 0, Value.int .i64 0, Value.bool false], Value.int .i64 1]) rfl hE (.cellN (us := [Value.int .i64 0, Value.int .i64 0, Value.bool false]) tA35 tS35 rfl B_g4 rfl (.tmp rfl .nil)) rfl ?_
            have e0 : (rightV nd pf && nodeB tg && perB fr) = false := by
              unfold rightV perB
              simp only [hb27, hb39, decide_eq_false hc28, decide_eq_true hc40, Bool.and_true, Bool.true_and, Bool.and_false, Bool.false_and, Bool.or_true, Bool.true_or, Bool.or_false, Bool.false_or, Bool.not_true, Bool.not_false, Bool.and_self, Bool.or_self]
            exact ⟨by unfold nextF; rw [e0]; rfl, K_0⟩
          ·
            refine p_cons (s_still (v := Value.bool false) p7_1_20 hE (wn_some g7_1_15 rfl rfl) rfl (st_eql rfl rfl (decide_eq_false hc40)) ?_)
            clear hE a; intro a hE
            refine q0 p7_1_21 hE (st_pick rfl rfl) ?_
            clear hE a; intro a hE
            refine q0 p7_1_22 hE (st_move rfl) ?_
            clear hE a; intro a hE
            refine p_cons (s_still p7_1_23 hE (wn_some g7_1_22 rfl rfl) rfl (st_move rfl) ?_)
            clear hE a; intro a hE
            refine p_cons (s_call (xs := [Operand.tmp 34]) (args := [Value.int .i64 tg]) p7_1_24 hE (wn_some g7_1_22 rfl rfl) rfl rfl Tryd.func8 cl8 (vnode tg _) ?_)
            rintro e w42 ⟨rfl, hk⟩
            replace B_g1 := kp_blk B_g1 hk (fun h => h)
            replace B_g4 := kp_blk B_g4 hk (fun h => h)
            replace O_L := Rv.rdv_keep O_L hk (fun _ _ h => h)
            replace K_0 := K_0.then_ hk (fun _ h => h.elim)
            refine ⟨_, rfl, ?_⟩
            clear hE a; intro a hE
            refine p_cons (s_still p7_1_25 hE (wn_some g7_1_22 rfl rfl) rfl (st_not rfl rfl) ?_)
            clear hE a; intro a hE
            refine q0 p7_1_26 hE (st_pick rfl rfl) ?_
            clear hE a; intro a hE
            refine q0 p7_1_27 hE (st_move rfl) ?_
            clear hE a; intro a hE
            rcases Bool.eq_false_or_eq_true (nodeB tg) with hb43 | hb43
            ·
              rw [hb43] at hE
              refine p_cons (s_still p7_1_28 hE (wn_some g7_1_27 rfl rfl) rfl (st_move rfl) ?_)
              clear hE a; intro a hE
              rcases Decidable.em (fr = -1) with hc44 | hc44
              ·
                refine p_cons (s_still (v := Value.bool false) p7_1_29 hE (wn_some g7_1_27 rfl rfl) rfl (st_neq rfl rfl (by rw [decide_eq_true hc44]; rfl)) ?_)
                clear hE a; intro a hE
                refine p_cons (s_still p7_1_30 hE (wn_some g7_1_27 rfl rfl) rfl (st_move rfl) ?_)
                clear hE a; intro a hE
                refine p_cons (s_skip p7_1_31 hE (wn_some g7_1_30 rfl rfl) rfl ?_)
                clear hE a; intro a hE
                refine p_cons (s_skip p7_1_32 hE (wn_some g7_1_30 rfl rfl) rfl ?_)
                clear hE a; intro a hE
                refine p_cons (s_skip p7_1_33 hE (wn_some g7_1_30 rfl rfl) rfl ?_)
                clear hE a; intro a hE
                refine p_cons (s_still p7_1_34 hE (wn_some g7_1_27 rfl rfl) rfl (st_pick rfl rfl) ?_)
                clear hE a; intro a hE
                refine q0 p7_1_35 hE (st_pick rfl rfl) ?_
                clear hE a; intro a hE
                refine p_nil ?_
                refine x_norm ?_
                refine c_cond (t := false) hE rfl ?_
                refine wp_skip ?_
                refine x_norm ?_
                exact jn3 _ _ ⟨En.sub hE ⟨rfl, rfl, rfl, rfl, rfl, rfl, trivial⟩, (by unfold rightV perB; simp only [hb27, hb39, hb43, decide_eq_false hc28, decide_eq_false hc40, decide_eq_true hc44, Bool.and_true, Bool.true_and, Bool.and_false, Bool.false_and, Bool.or_true, Bool.true_or, Bool.or_false, Bool.false_or, Bool.not_true, Bool.not_false, Bool.and_self, Bool.or_self]), B_g1, B_g4, O_L, Nb_L_g1, Nb_L_g4, K_0⟩
              ·
                refine p_cons (s_still (v := Value.bool true) p7_1_29 hE (wn_some g7_1_27 rfl rfl) rfl (st_neq rfl rfl (by rw [decide_eq_false hc44]; rfl)) ?_)
                clear hE a; intro a hE
                refine p_cons (s_still p7_1_30 hE (wn_some g7_1_27 rfl rfl) rfl (st_move rfl) ?_)
                clear hE a; intro a hE
                refine p_cons (s_still p7_1_31 hE (wn_some g7_1_30 rfl rfl) rfl (st_move rfl) ?_)
                clear hE a; intro a hE
                refine p_cons (s_call (xs := [Operand.tmp 42]) (args := [Value.int .i64 fr]) p7_1_32 hE (wn_some g7_1_30 rfl rfl) rfl rfl Tryd.func8 cl8 (vnode fr _) ?_)
                rintro e w45 ⟨rfl, hk⟩
                replace B_g1 := kp_blk B_g1 hk (fun h => h)
                replace B_g4 := kp_blk B_g4 hk (fun h => h)
                replace O_L := Rv.rdv_keep O_L hk (fun _ _ h => h)
                replace K_0 := K_0.then_ hk (fun _ h => h.elim)
                refine ⟨_, rfl, ?_⟩
                clear hE a; intro a hE
                refine p_cons (s_still p7_1_33 hE (wn_some g7_1_30 rfl rfl) rfl (st_not rfl rfl) ?_)
                clear hE a; intro a hE
                refine p_cons (s_still p7_1_34 hE (wn_some g7_1_27 rfl rfl) rfl (st_pick rfl rfl) ?_)
                clear hE a; intro a hE
                refine q0 p7_1_35 hE (st_pick rfl rfl) ?_
                clear hE a; intro a hE
                refine p_nil ?_
                refine x_norm ?_
                rcases Bool.eq_false_or_eq_true (nodeB fr) with hb46 | hb46
                ·
                  rw [hb46] at hE
                  refine c_cond (t := false) hE rfl ?_
                  refine wp_skip ?_
                  refine x_norm ?_
                  exact jn3 _ _ ⟨En.sub hE ⟨rfl, rfl, rfl, rfl, rfl, rfl, trivial⟩, (by unfold rightV perB; simp only [hb27, hb39, hb43, hb46, decide_eq_false hc28, decide_eq_false hc40, decide_eq_false hc44, Bool.and_true, Bool.true_and, Bool.and_false, Bool.false_and, Bool.or_true, Bool.true_or, Bool.or_false, Bool.false_or, Bool.not_true, Bool.not_false, Bool.and_self, Bool.or_self]), B_g1, B_g4, O_L, Nb_L_g1, Nb_L_g4, K_0⟩
                ·
                  rw [hb46] at hE
                  refine c_cond (t := true) hE rfl ?_
                  refine c_reg R7_2_l ?_
                  refine q0 p7_2_0 hE (st_build (xs := []) (vs := []) (cs := #[Value.int .i64 0, Value.int .i64 0, Value.bool false]) rfl (by kernel_rfl)) ?_
                  clear hE a; intro a hE
                  refine p_cons (s_store (off := 0) (k := 3) (cs' := #[Value.int .i64 0, Value.int .i64 0, Value.bool false]) p7_2_1 hE wn_none tS35 rfl rfl rfl rfl B_g4 (Nat.le_of_ble_eq_true rfl) rfl ?_)
                  intro w47 B_g4' hk
                  replace B_g1 := kp_blk B_g1 hk n_g1_g4
                  replace O_L := Rv.rdv_keep O_L hk (fun k hk2 h2 => Nb_L_g4 (by rw [show k = g4 from h2] at hk2; exact hk2))
                  replace K_0 := K_0.then_ hk (fun k h => by rw [show k = g4 from h]; exact Or.inr z_0_g4)
                  replace B_g4 := B_g4'
                  clear hk
                  refine q0 p7_2_2 hE (st_assign rfl) ?_
                  clear hE a; intro a hE
                  refine p_nil ?_
                  refine x_norm ?_
                  refine wp_ret ?_
                  refine x_ret ?_
                  refine ret_list (rs := [.cell 8 35, .tmp 9]) (vs := [Value.agg #[Value.int .i64 0, Value.int .i64 0, Value.bool false], Value.int .i64 1]) rfl hE (.cellN (us := [Value.int .i64 0, Value.int .i64 0, Value.bool false]) tA35 tS35 rfl B_g4 rfl (.tmp rfl .nil)) rfl ?_
                  have e0 : (rightV nd pf && nodeB tg && perB fr) = false := by
                    unfold rightV perB
                    simp only [hb27, hb39, hb43, hb46, decide_eq_false hc28, decide_eq_false hc40, decide_eq_false hc44, Bool.and_true, Bool.true_and, Bool.and_false, Bool.false_and, Bool.or_true, Bool.true_or, Bool.or_false, Bool.false_or, Bool.not_true, Bool.not_false, Bool.and_self, Bool.or_self]
                  exact ⟨by unfold nextF; rw [e0]; rfl, K_0⟩
            ·
              rw [hb43] at hE
              refine p_cons (s_skip p7_1_28 hE (wn_some g7_1_27 rfl rfl) rfl ?_)
              clear hE a; intro a hE
              refine p_cons (s_skip p7_1_29 hE (wn_some g7_1_27 rfl rfl) rfl ?_)
              clear hE a; intro a hE
              refine p_cons (s_skip p7_1_30 hE (wn_some g7_1_27 rfl rfl) rfl ?_)
              clear hE a; intro a hE
              refine p_cons (s_skip p7_1_31 hE (wn_undef g7_1_30 rfl) rfl ?_)
              clear hE a; intro a hE
              refine p_cons (s_skip p7_1_32 hE (wn_undef g7_1_30 rfl) rfl ?_)
              clear hE a; intro a hE
              refine p_cons (s_skip p7_1_33 hE (wn_undef g7_1_30 rfl) rfl ?_)
              clear hE a; intro a hE
              refine p_cons (s_skip p7_1_34 hE (wn_some g7_1_27 rfl rfl) rfl ?_)
              clear hE a; intro a hE
              refine q0 p7_1_35 hE (st_pick rfl rfl) ?_
              clear hE a; intro a hE
              refine p_nil ?_
              refine x_norm ?_
              refine c_cond (t := true) hE rfl ?_
              refine c_reg R7_2_l ?_
              refine q0 p7_2_0 hE (st_build (xs := []) (vs := []) (cs := #[Value.int .i64 0, Value.int .i64 0, Value.bool false]) rfl (by kernel_rfl)) ?_
              clear hE a; intro a hE
              refine p_cons (s_store (off := 0) (k := 3) (cs' := #[Value.int .i64 0, Value.int .i64 0, Value.bool false]) p7_2_1 hE wn_none tS35 rfl rfl rfl rfl B_g4 (Nat.le_of_ble_eq_true rfl) rfl ?_)
              intro w48 B_g4' hk
              replace B_g1 := kp_blk B_g1 hk n_g1_g4
              replace O_L := Rv.rdv_keep O_L hk (fun k hk2 h2 => Nb_L_g4 (by rw [show k = g4 from h2] at hk2; exact hk2))
              replace K_0 := K_0.then_ hk (fun k h => by rw [show k = g4 from h]; exact Or.inr z_0_g4)
              replace B_g4 := B_g4'
              clear hk
              refine q0 p7_2_2 hE (st_assign rfl) ?_
              clear hE a; intro a hE
              refine p_nil ?_
              refine x_norm ?_
              refine wp_ret ?_
              refine x_ret ?_
              refine ret_list (rs := [.cell 8 35, .tmp 9]) (vs := [Value.agg #[Value.int .i64 0, Value.int .i64 0, Value.bool false], Value.int .i64 1]) rfl hE (.cellN (us := [Value.int .i64 0, Value.int .i64 0, Value.bool false]) tA35 tS35 rfl B_g4 rfl (.tmp rfl .nil)) rfl ?_
              have e0 : (rightV nd pf && nodeB tg && perB fr) = false := by
                unfold rightV perB
                simp only [hb27, hb39, hb43, decide_eq_false hc28, decide_eq_false hc40, Bool.and_true, Bool.true_and, Bool.and_false, Bool.false_and, Bool.or_true, Bool.true_or, Bool.or_false, Bool.false_or, Bool.not_true, Bool.not_false, Bool.and_self, Bool.or_self]
              exact ⟨by unfold nextF; rw [e0]; rfl, K_0⟩
        ·
          rw [hb39] at hE
          refine p_cons (s_skip p7_1_16 hE (wn_some g7_1_15 rfl rfl) rfl ?_)
          clear hE a; intro a hE
          refine p_cons (s_skip p7_1_17 hE (wn_some g7_1_15 rfl rfl) rfl ?_)
          clear hE a; intro a hE
          refine p_cons (s_skip p7_1_18 hE (wn_some g7_1_15 rfl rfl) rfl ?_)
          clear hE a; intro a hE
          refine p_cons (s_skip p7_1_19 hE (wn_some g7_1_15 rfl rfl) rfl ?_)
          clear hE a; intro a hE
          refine p_cons (s_skip p7_1_20 hE (wn_some g7_1_15 rfl rfl) rfl ?_)
          clear hE a; intro a hE
          refine q0 p7_1_21 hE (st_pick rfl rfl) ?_
          clear hE a; intro a hE
          refine q0 p7_1_22 hE (st_move rfl) ?_
          clear hE a; intro a hE
          refine p_cons (s_skip p7_1_23 hE (wn_some g7_1_22 rfl rfl) rfl ?_)
          clear hE a; intro a hE
          refine p_cons (s_skip p7_1_24 hE (wn_some g7_1_22 rfl rfl) rfl ?_)
          clear hE a; intro a hE
          refine p_cons (s_skip p7_1_25 hE (wn_some g7_1_22 rfl rfl) rfl ?_)
          clear hE a; intro a hE
          refine q0 p7_1_26 hE (st_pick rfl rfl) ?_
          clear hE a; intro a hE
          refine q0 p7_1_27 hE (st_move rfl) ?_
          clear hE a; intro a hE
          refine p_cons (s_skip p7_1_28 hE (wn_some g7_1_27 rfl rfl) rfl ?_)
          clear hE a; intro a hE
          refine p_cons (s_skip p7_1_29 hE (wn_some g7_1_27 rfl rfl) rfl ?_)
          clear hE a; intro a hE
          refine p_cons (s_skip p7_1_30 hE (wn_some g7_1_27 rfl rfl) rfl ?_)
          clear hE a; intro a hE
          refine p_cons (s_skip p7_1_31 hE (wn_undef g7_1_30 rfl) rfl ?_)
          clear hE a; intro a hE
          refine p_cons (s_skip p7_1_32 hE (wn_undef g7_1_30 rfl) rfl ?_)
          clear hE a; intro a hE
          refine p_cons (s_skip p7_1_33 hE (wn_undef g7_1_30 rfl) rfl ?_)
          clear hE a; intro a hE
          refine p_cons (s_skip p7_1_34 hE (wn_some g7_1_27 rfl rfl) rfl ?_)
          clear hE a; intro a hE
          refine q0 p7_1_35 hE (st_pick rfl rfl) ?_
          clear hE a; intro a hE
          refine p_nil ?_
          refine x_norm ?_
          refine c_cond (t := true) hE rfl ?_
          refine c_reg R7_2_l ?_
          refine q0 p7_2_0 hE (st_build (xs := []) (vs := []) (cs := #[Value.int .i64 0, Value.int .i64 0, Value.bool false]) rfl (by kernel_rfl)) ?_
          clear hE a; intro a hE
          refine p_cons (s_store (off := 0) (k := 3) (cs' := #[Value.int .i64 0, Value.int .i64 0, Value.bool false]) p7_2_1 hE wn_none tS35 rfl rfl rfl rfl B_g4 (Nat.le_of_ble_eq_true rfl) rfl ?_)
          intro w49 B_g4' hk
          replace B_g1 := kp_blk B_g1 hk n_g1_g4
          replace O_L := Rv.rdv_keep O_L hk (fun k hk2 h2 => Nb_L_g4 (by rw [show k = g4 from h2] at hk2; exact hk2))
          replace K_0 := K_0.then_ hk (fun k h => by rw [show k = g4 from h]; exact Or.inr z_0_g4)
          replace B_g4 := B_g4'
          clear hk
          refine q0 p7_2_2 hE (st_assign rfl) ?_
          clear hE a; intro a hE
          refine p_nil ?_
          refine x_norm ?_
          refine wp_ret ?_
          refine x_ret ?_
          refine ret_list (rs := [.cell 8 35, .tmp 9]) (vs := [Value.agg #[Value.int .i64 0, Value.int .i64 0, Value.bool false], Value.int .i64 1]) rfl hE (.cellN (us := [Value.int .i64 0, Value.int .i64 0, Value.bool false]) tA35 tS35 rfl B_g4 rfl (.tmp rfl .nil)) rfl ?_
          have e0 : (rightV nd pf && nodeB tg && perB fr) = false := by
            unfold rightV perB
            simp only [hb27, hb39, decide_eq_false hc28, Bool.and_true, Bool.true_and, Bool.and_false, Bool.false_and, Bool.or_true, Bool.true_or, Bool.or_false, Bool.false_or, Bool.not_true, Bool.not_false, Bool.and_self, Bool.or_self]
          exact ⟨by unfold nextF; rw [e0]; rfl, K_0⟩
    ·
      rw [hb27] at hE
      refine p_cons (s_skip p7_1_5 hE (wn_some g7_1_4 rfl rfl) rfl ?_)
      clear hE a; intro a hE
      refine p_cons (s_skip p7_1_6 hE (wn_some g7_1_4 rfl rfl) rfl ?_)
      clear hE a; intro a hE
      refine p_cons (s_skip p7_1_7 hE (wn_some g7_1_4 rfl rfl) rfl ?_)
      clear hE a; intro a hE
      refine p_cons (s_skip p7_1_8 hE (wn_some g7_1_4 rfl rfl) rfl ?_)
      clear hE a; intro a hE
      refine p_cons (s_skip p7_1_9 hE (wn_undef g7_1_8 rfl) rfl ?_)
      clear hE a; intro a hE
      refine p_cons (s_skip p7_1_10 hE (wn_undef g7_1_8 rfl) rfl ?_)
      clear hE a; intro a hE
      refine p_cons (s_skip p7_1_11 hE (wn_undef g7_1_8 rfl) rfl ?_)
      clear hE a; intro a hE
      refine p_cons (s_skip p7_1_12 hE (wn_undef g7_1_8 rfl) rfl ?_)
      clear hE a; intro a hE
      refine p_cons (s_skip p7_1_13 hE (wn_some g7_1_4 rfl rfl) rfl ?_)
      clear hE a; intro a hE
      refine q0 p7_1_14 hE (st_pick rfl rfl) ?_
      clear hE a; intro a hE
      refine q0 p7_1_15 hE (st_move rfl) ?_
      clear hE a; intro a hE
      refine p_cons (s_skip p7_1_16 hE (wn_some g7_1_15 rfl rfl) rfl ?_)
      clear hE a; intro a hE
      refine p_cons (s_skip p7_1_17 hE (wn_some g7_1_15 rfl rfl) rfl ?_)
      clear hE a; intro a hE
      refine p_cons (s_skip p7_1_18 hE (wn_some g7_1_15 rfl rfl) rfl ?_)
      clear hE a; intro a hE
      refine p_cons (s_skip p7_1_19 hE (wn_some g7_1_15 rfl rfl) rfl ?_)
      clear hE a; intro a hE
      refine p_cons (s_skip p7_1_20 hE (wn_some g7_1_15 rfl rfl) rfl ?_)
      clear hE a; intro a hE
      refine q0 p7_1_21 hE (st_pick rfl rfl) ?_
      clear hE a; intro a hE
      refine q0 p7_1_22 hE (st_move rfl) ?_
      clear hE a; intro a hE
      refine p_cons (s_skip p7_1_23 hE (wn_some g7_1_22 rfl rfl) rfl ?_)
      clear hE a; intro a hE
      refine p_cons (s_skip p7_1_24 hE (wn_some g7_1_22 rfl rfl) rfl ?_)
      clear hE a; intro a hE
      refine p_cons (s_skip p7_1_25 hE (wn_some g7_1_22 rfl rfl) rfl ?_)
      clear hE a; intro a hE
      refine q0 p7_1_26 hE (st_pick rfl rfl) ?_
      clear hE a; intro a hE
      refine q0 p7_1_27 hE (st_move rfl) ?_
      clear hE a; intro a hE
      refine p_cons (s_skip p7_1_28 hE (wn_some g7_1_27 rfl rfl) rfl ?_)
      clear hE a; intro a hE
      refine p_cons (s_skip p7_1_29 hE (wn_some g7_1_27 rfl rfl) rfl ?_)
      clear hE a; intro a hE
      refine p_cons (s_skip p7_1_30 hE (wn_some g7_1_27 rfl rfl) rfl ?_)
      clear hE a; intro a hE
      refine p_cons (s_skip p7_1_31 hE (wn_undef g7_1_30 rfl) rfl ?_)
      clear hE a; intro a hE
      refine p_cons (s_skip p7_1_32 hE (wn_undef g7_1_30 rfl) rfl ?_)
      clear hE a; intro a hE
      refine p_cons (s_skip p7_1_33 hE (wn_undef g7_1_30 rfl) rfl ?_)
      clear hE a; intro a hE
      refine p_cons (s_skip p7_1_34 hE (wn_some g7_1_27 rfl rfl) rfl ?_)
      clear hE a; intro a hE
      refine q0 p7_1_35 hE (st_pick rfl rfl) ?_
      clear hE a; intro a hE
      refine p_nil ?_
      refine x_norm ?_
      refine c_cond (t := true) hE rfl ?_
      refine c_reg R7_2_l ?_
      refine q0 p7_2_0 hE (st_build (xs := []) (vs := []) (cs := #[Value.int .i64 0, Value.int .i64 0, Value.bool false]) rfl (by kernel_rfl)) ?_
      clear hE a; intro a hE
      refine p_cons (s_store (off := 0) (k := 3) (cs' := #[Value.int .i64 0, Value.int .i64 0, Value.bool false]) p7_2_1 hE wn_none tS35 rfl rfl rfl rfl B_g4 (Nat.le_of_ble_eq_true rfl) rfl ?_)
      intro w50 B_g4' hk
      replace B_g1 := kp_blk B_g1 hk n_g1_g4
      replace O_L := Rv.rdv_keep O_L hk (fun k hk2 h2 => Nb_L_g4 (by rw [show k = g4 from h2] at hk2; exact hk2))
      replace K_0 := K_0.then_ hk (fun k h => by rw [show k = g4 from h]; exact Or.inr z_0_g4)
      replace B_g4 := B_g4'
      clear hk
      refine q0 p7_2_2 hE (st_assign rfl) ?_
      clear hE a; intro a hE
      refine p_nil ?_
      refine x_norm ?_
      refine wp_ret ?_
      refine x_ret ?_
      refine ret_list (rs := [.cell 8 35, .tmp 9]) (vs := [Value.agg #[Value.int .i64 0, Value.int .i64 0, Value.bool false], Value.int .i64 1]) rfl hE (.cellN (us := [Value.int .i64 0, Value.int .i64 0, Value.bool false]) tA35 tS35 rfl B_g4 rfl (.tmp rfl .nil)) rfl ?_
      have e0 : (rightV nd pf && nodeB tg && perB fr) = false := by
        unfold rightV perB
        simp only [hb27, Bool.and_true, Bool.true_and, Bool.and_false, Bool.false_and, Bool.or_true, Bool.true_or, Bool.or_false, Bool.false_or, Bool.not_true, Bool.not_false, Bool.and_self, Bool.or_self]
      exact ⟨by unfold nextF; rw [e0]; rfl, K_0⟩
end Go.Proofs.YtnmlckaeheiodaaDoor.Rg
