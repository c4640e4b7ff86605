/- Layer 21: the program's table and the document's; Check, Next, To. -/
import Derived.Test.YtnmlckaeheiodaaDoorRtf
set_option maxRecDepth 100000
set_option linter.unusedVariables false
set_option linter.unusedSimpArgs false
namespace Go.Proofs.YtnmlckaeheiodaaDoor.Rg
open Go.RowKit Go.Proofs.YtnmlckaeheiodaaDoorW.PrintWords Go.Proofs.YtnmlckaeheiodaaDoor.Ds Go.Proofs.YtnmlckaeheiodaaDoor.Lol Go.Proofs.YtnmlckaeheiodaaDoor.Ra Go.Proofs.YtnmlckaeheiodaaDoor.Rd19
open Go.Proofs.YtnmlckaeheiodaaDoor.Pk (Kp)
open Go.Proofs.YtnmlckaeheiodaaDoor.Mi (st_eqlP x_retS MapI getI putI)
/-- The two tables tell the same. -/
structure Rel (l : List (Int × R4)) (L : List R4) : Prop where
 get : ∀ n, getI l n = getR L n
 len : l.length = L.length
 ok : ∀ o ∈ L, okR o = true
theorem rel_nil : Rel [] [] := ⟨fun _ => rfl, rfl, fun _ h => absurd h List.not_mem_nil⟩
theorem getR_mem : ∀ {L : List R4} {n : Int} {o : R4}, getR L n = some o → o ∈ L ∧ o.1 = n
 | [], _, _, h => by cases h
 | a :: L, n, o, h => by
  unfold getR at h
  split at h
  ·
   rename_i ha
   injection h with h
   subst h
   exact ⟨List.mem_cons_self .., ha⟩
  ·
   have := getR_mem h
   exact ⟨List.mem_cons_of_mem _ this.1, this.2⟩
theorem getR_ins : ∀ (L : List R4) (r : R4) (n : Int), getR L r.1 = none → getR (insR L r) n = if r.1 = n then some r else getR L n
 | [], r, n, _ => by unfold insR getR; rfl
 | a :: L, r, n, h => by
  unfold getR at h
  split at h
  · cases h
  ·
   rename_i ha
   unfold insR
   split
   ·
    show (if a.1 = n then some a else getR (insR L r) n) = if r.1 = n then some r else (if a.1 = n then some a else getR L n)
    rw [getR_ins L r n h]
    by_cases h1 : a.1 = n
    · rw [if_pos h1, if_neg (fun e => ha (h1.trans e.symm)), if_pos h1]
    · rw [if_neg h1, if_neg h1]
   · rfl
theorem getR_rep : ∀ (L : List R4) (r o : R4) (n : Int), getR L r.1 = some o → getR (repR L r) n = if r.1 = n then some r else getR L n
 | [], _, _, _, h => by cases h
 | a :: L, r, o, n, h => by
  unfold getR at h
  unfold repR
  by_cases ha : a.1 = r.1
  ·
   rw [if_pos ha]
   show (if r.1 = n then some r else getR L n) = if r.1 = n then some r else (if a.1 = n then some a else getR L n)
   by_cases h1 : r.1 = n
   · rw [if_pos h1, if_pos h1]
   · rw [if_neg h1, if_neg h1, if_neg (fun e => h1 (ha.symm.trans e))]
  ·
   rw [if_neg ha] at h
   rw [if_neg ha]
   show (if a.1 = n then some a else getR (repR L r) n) = if r.1 = n then some r else (if a.1 = n then some a else getR L n)
   rw [getR_rep L r o n h]
   by_cases h1 : a.1 = n
   · rw [if_pos h1, if_neg (fun e => ha (h1.trans e.symm)), if_pos h1]
   · rw [if_neg h1, if_neg h1]
theorem ins_len (L : List R4) (r : R4) : (insR L r).length = L.length + 1 := by
 induction L with
 | nil => rfl
 | cons a L ih => unfold insR; split <;> simp [ih]
theorem rep_len (L : List R4) (r : R4) : (repR L r).length = L.length := by
 induction L with
 | nil => rfl
 | cons a L ih => unfold repR; split <;> simp [ih]
theorem ins_mem {L : List R4} {r x : R4} (h : x ∈ insR L r) : x = r ∨ x ∈ L := by
 induction L with
 | nil => exact .inl (List.mem_singleton.1 h)
 | cons a L ih =>
  unfold insR at h
  split at h
  ·
   rcases List.mem_cons.1 h with rfl | h
   · exact .inr (List.mem_cons_self ..)
   · exact (ih h).imp id (List.mem_cons_of_mem _)
  ·
   rcases List.mem_cons.1 h with rfl | h
   · exact .inl rfl
   · exact .inr h
theorem rep_mem {L : List R4} {r x : R4} (h : x ∈ repR L r) : x = r ∨ x ∈ L := by
 induction L with
 | nil => cases h
 | cons a L ih =>
  unfold repR at h
  split at h
  ·
   rcases List.mem_cons.1 h with rfl | h
   · exact .inl rfl
   · exact .inr (List.mem_cons_of_mem _ h)
  ·
   rcases List.mem_cons.1 h with rfl | h
   · exact .inr (List.mem_cons_self ..)
   · exact (ih h).imp id (List.mem_cons_of_mem _)
theorem learn_len (L : List R4) (r : R4) : (learnR L r).length ≤ L.length + 1 := by
 unfold learnR
 split
 ·
  split
  · rw [ins_len]; exact Nat.le_refl _
  ·
   split
   · rw [rep_len]; exact Nat.le_succ _
   · exact Nat.le_succ _
 · exact Nat.le_succ _
theorem Rel.learn {l : List (Int × R4)} {L : List R4} (h : Rel l L) (r : R4) : Rel (learnL l r) (learnR L r) := by
 unfold learnL learnR
 by_cases hr : okR r = true
 ·
  rw [if_pos hr, if_pos hr, h.get]
  cases hg : getR L r.1 with
  | none =>
   refine ⟨fun n => ?_, ?_, fun o ho => (ins_mem ho).elim (fun e => e ▸ hr) (h.ok o)⟩
   ·
    show getI (putI l r.1 r) n = getR (insR L r) n
    rw [Mi.getI_put, getR_ins L r n hg, h.get]
    by_cases e : n = r.1
    · rw [if_pos e, if_pos e.symm]
    · rw [if_neg e, if_neg (fun q => e q.symm)]
   ·
    show (putI l r.1 r).length = (insR L r).length
    rw [Mi.putI_len, ins_len, h.get, hg, ← h.len]; rfl
  | some o =>
   show Rel (if freshB r o = true then putI l r.1 r else l) (if freshB r o = true then repR L r else L)
   split
   ·
    refine ⟨fun n => ?_, ?_, fun o ho => (rep_mem ho).elim (fun e => e ▸ hr) (h.ok o)⟩
    ·
     rw [Mi.getI_put, getR_rep L r o n hg, h.get]
     by_cases e : n = r.1
     · rw [if_pos e, if_pos e.symm]
     · rw [if_neg e, if_neg (fun q => e q.symm)]
    · rw [Mi.putI_len, rep_len, h.get, hg, ← h.len]; rfl
   · exact h
 · rw [if_neg hr, if_neg hr]; exact h
def allL (ls : List R4) : List (Int × R4) := (ls.take 10).foldl learnL []
def allR (ls : List R4) : List R4 := (ls.take 10).foldl learnR []
theorem rel_fold (ls : List R4) : ∀ {l : List (Int × R4)} {L : List R4}, Rel l L → Rel (ls.foldl learnL l) (ls.foldl learnR L) := by
 induction ls with
 | nil => exact fun h => h
 | cons a ls ih => exact fun h => ih (h.learn a)
theorem rel_all (ls : List R4) : Rel (allL ls) (allR ls) := rel_fold _ rel_nil
theorem fold_next {α β : Type} (f : β → α → β) (a : β) {l : List α} {j : Nat} {s : α} (h : l[j]? = some s) : (l.take (j + 1)).foldl f a = f ((l.take j).foldl f a) s := by
 rw [List.take_add_one, h, List.foldl_append]
 rfl
theorem Rel.okl {l : List (Int × R4)} {L : List R4} (h : Rel l L) {x : Int} {o : R4} (ho : getI l x = some o) : okR o = true := h.ok o (getR_mem (by rw [← h.get]; exact ho)).1
/-- The neighbour that a table tells; below 0: none. -/
def viaL (l : List (Int × R4)) (n : Int) : Int := match getI l n with | none => -1 | some o => o.2.1
def perB (n : Int) : Bool := decide (n = -1) || nodeB n
def rightV (nd pf : Int) : Bool := nodeB nd && perB pf && !decide (pf = nd)
theorem per_b {n : Int} (h : perB n = true) : n = -1 ∨ 0 ≤ n ∧ n < 64 := by
 unfold perB nodeB at h
 simpa using h
theorem right_b {nd pf : Int} (h : rightV nd pf = true) : (0 ≤ nd ∧ nd < 64) ∧ (pf = -1 ∨ 0 ≤ pf ∧ pf < 64) := by
 unfold rightV at h
 simp only [Bool.and_eq_true] at h
 exact ⟨by have := h.1.1; unfold nodeB at this; simpa using this, per_b h.1.2⟩
/-- Where a datagram goes next: kind, next, down, error. -/
def nextF (nd pf : Int) (rt : Bool) (v tg fr : Int) (dn : Bool) : Int × Int × Bool × Int :=
 if (rightV nd pf && nodeB tg && perB fr) = true then
  if tg = nd then (0, -1, false, 0) else if 0 ≤ v then (1, v, true, 0)
  else if (dn && !decide (fr = -1)) = true then (3, fr, true, 0) else if (rt || decide (pf = -1)) = true then (4, -1, false, 0) else (2, pf, false, 0)
 else (0, 0, false, 1)
def hopV (h : Int × Int × Bool × Int) : Value := .tuple #[.agg #[.int .i64 h.1, .int .i64 h.2.1, .bool h.2.2.1], .int .i64 h.2.2.2]
theorem R19_0_l : List.range (regOf Tryd.f19 0).size = [0] := by kernel_rfl
theorem R19_1_l : List.range (regOf Tryd.f19 1).size = [0, 1, 2, 3, 4, 5, 6] := by kernel_rfl
theorem body19 : Tryd.f19.body = some (.seq (.region 0 (regOf Tryd.f19 0) false) (.seq (.region 1 (regOf Tryd.f19 1) false) (.ret))) := by kernel_rfl
theorem p19_0_0 : pj (regOf Tryd.f19 0) 0 = some (some 2, .assign (.const (.bool false)), 4, none) := by kernel_rfl
theorem P19_1 : (List.range (regOf Tryd.f19 1).size).map (pj (regOf Tryd.f19 1)) = [some (some 3, .move (.tmp 0), 3, none), some (some 4, .binOp .geq 3 (.tmp 3) (.const (.int .i64 0)) 3, 4, none), some (some 5, .move (.tmp 4), 4, none), some (some 6, .move (.tmp 0), 3, some (2, true)), some (some 7, .binOp .lss 3 (.tmp 6) (.const (.int .i64 64)) 3, 4, some (2, true)), some (some 8, .pick (.tmp 5) (.tmp 7) (.const (.bool false)), 4, none), some (some 2, .assign (.tmp 8), 4, none)] := by kernel_rfl
theorem g19_1_2 : dstOf (regOf Tryd.f19 1) 2 = some 5 := by kernel_rfl
set_option maxHeartbeats 4000000 in
theorem pnode (n : Int) (w : World) : Calls Tryd.prog 19 #[.int .i64 n] w fun e w' => e = .returned (.bool (nodeB n)) ∧ Kp w w' (fun _ => False) := by
 have K_0 := Kp.refl w (fun _ => False)
 refine enter (args := [Value.int .i64 n]) (n := 9) Tryd.func19 body19 rfl rfl rfl ?_
 intro a hE
 refine c_reg R19_0_l ?_
 refine q0 p19_0_0 hE (st_assign rfl) ?_; clear hE a; intro a hE
 refine p_nil (x_norm (c_reg R19_1_l ?_))
 refine q0 (pl P19_1 0) hE (st_move rfl) ?_; clear hE a; intro a hE
 rcases Decidable.em (0 ≤ n) with hc1 | hc1
 ·
  refine qn hE (rg (v := Value.bool true) (pl P19_1 1) wn_none (st_geq rfl rfl (decide_eq_true hc1)) (rc (pl P19_1 2) (st_move rfl) (rg (pl P19_1 3) (wn_some g19_1_2 rfl rfl) (st_move rfl) rn))) ?_; clear hE a; intro a hE
  rcases Decidable.em (n < 64) with hc2 | hc2
  ·
   refine qn hE (rg (v := Value.bool true) (pl P19_1 4) (wn_some g19_1_2 rfl rfl) (st_lss rfl rfl (decide_eq_true hc2)) (rc (pl P19_1 5) (st_pick rfl rfl) (rc (pl P19_1 6) (st_assign rfl) rn))) ?_; clear hE a; intro a hE
   refine p_nil (x_norm (wp_ret ?_))
   refine ret_one (v := Value.bool true) rfl hE (.tmp rfl .nil) ?_
   exact ⟨by rw [node_t (by omega) (by omega)], K_0⟩
  ·
   refine qn hE (rg (v := Value.bool false) (pl P19_1 4) (wn_some g19_1_2 rfl rfl) (st_lss rfl rfl (decide_eq_false hc2)) (rc (pl P19_1 5) (st_pick rfl rfl) (rc (pl P19_1 6) (st_assign rfl) rn))) ?_; clear hE a; intro a hE
   refine p_nil (x_norm (wp_ret ?_))
   refine ret_one (v := Value.bool false) rfl hE (.tmp rfl .nil) ?_
   exact ⟨by rw [node_f (by omega)], K_0⟩
 ·
  refine qn hE (rg (v := Value.bool false) (pl P19_1 1) wn_none (st_geq rfl rfl (decide_eq_false hc1)) (rc (pl P19_1 2) (st_move rfl) (rk (pl P19_1 3) (wn_some g19_1_2 rfl rfl) (rk (pl P19_1 4) (wn_some g19_1_2 rfl rfl) (rc (pl P19_1 5) (st_pick rfl rfl) (rc (pl P19_1 6) (st_assign rfl) rn)))))) ?_; clear hE a; intro a hE
  refine p_nil (x_norm (wp_ret ?_))
  refine ret_one (v := Value.bool false) rfl hE (.tmp rfl .nil) ?_
  exact ⟨by rw [node_f (by omega)], K_0⟩
theorem R20_0_l : List.range (regOf Tryd.f20 0).size = [0] := by kernel_rfl
theorem R20_1_l : List.range (regOf Tryd.f20 1).size = [0, 1, 2, 3, 4, 5, 6] := by kernel_rfl
theorem body20 : Tryd.f20.body = some (.seq (.region 0 (regOf Tryd.f20 0) false) (.seq (.region 1 (regOf Tryd.f20 1) false) (.ret))) := by kernel_rfl
theorem p20_0_0 : pj (regOf Tryd.f20 0) 0 = some (some 2, .assign (.const (.bool false)), 4, none) := by kernel_rfl
theorem P20_1 : (List.range (regOf Tryd.f20 1).size).map (pj (regOf Tryd.f20 1)) = [some (some 3, .move (.tmp 0), 3, none), some (some 4, .binOp .eql 3 (.tmp 3) (.const (.int .i64 (-1))) 3, 4, none), some (some 5, .move (.tmp 4), 4, none), some (some 6, .move (.tmp 0), 3, some (2, false)), some (some 7, .call { callee := .value (.func 19), args := #[.tmp 6], argTypes := #[3] }, 4, some (2, false)), some (some 8, .pick (.tmp 5) (.const (.bool true)) (.tmp 7), 4, none), some (some 2, .assign (.tmp 8), 4, none)] := by kernel_rfl
theorem g20_1_2 : dstOf (regOf Tryd.f20 1) 2 = some 5 := by kernel_rfl
theorem cl19 : callable Tryd.f19 = true := by kernel_rfl
set_option maxHeartbeats 4000000 in
theorem pper (n : Int) (w : World) : Calls Tryd.prog 20 #[.int .i64 n] w fun e w' => e = .returned (.bool (perB n)) ∧ Kp w w' (fun _ => False) := by
 have K_0 := Kp.refl w (fun _ => False)
 refine enter (args := [Value.int .i64 n]) (n := 9) Tryd.func20 body20 rfl rfl rfl ?_
 intro a hE
 refine c_reg R20_0_l ?_
 refine q0 p20_0_0 hE (st_assign rfl) ?_; clear hE a; intro a hE
 refine p_nil (x_norm (c_reg R20_1_l ?_))
 refine q0 (pl P20_1 0) hE (st_move rfl) ?_; clear hE a; intro a hE
 rcases Decidable.em (n = -1) with hc1 | hc1
 ·
  refine qn hE (rg (v := Value.bool true) (pl P20_1 1) wn_none (st_eql rfl rfl (decide_eq_true hc1)) (rc (pl P20_1 2) (st_move rfl) (rk (pl P20_1 3) (wn_some g20_1_2 rfl rfl) (rk (pl P20_1 4) (wn_some g20_1_2 rfl rfl) (rc (pl P20_1 5) (st_pick rfl rfl) (rc (pl P20_1 6) (st_assign rfl) rn)))))) ?_; clear hE a; intro a hE
  refine p_nil (x_norm (wp_ret ?_))
  refine ret_one (v := Value.bool true) rfl hE (.tmp rfl .nil) ?_
  exact ⟨by unfold perB; simp [hc1], K_0⟩
 ·
  refine qn hE (rg (v := Value.bool false) (pl P20_1 1) wn_none (st_eql rfl rfl (decide_eq_false hc1)) (rc (pl P20_1 2) (st_move rfl) (rg (pl P20_1 3) (wn_some g20_1_2 rfl rfl) (st_move rfl) rn))) ?_; clear hE a; intro a hE
  refine p_cons (s_call (xs := [Operand.tmp 6]) (args := [Value.int .i64 n]) (pl P20_1 4) hE (wn_some g20_1_2 rfl rfl) rfl rfl Tryd.func19 cl19 (pnode n _) ?_)
  rintro e w2 ⟨rfl, hk⟩
  replace K_0 := K_0.then_ hk (fun _ h => h.elim)
  refine ⟨_, rfl, ?_⟩; clear hE a; intro a hE
  refine qn hE (rc (pl P20_1 5) (st_pick rfl rfl) (rc (pl P20_1 6) (st_assign rfl) rn)) ?_; clear hE a; intro a hE
  refine p_nil (x_norm (wp_ret ?_))
  refine ret_one (v := Value.bool (nodeB n)) rfl hE (.tmp rfl .nil) ?_
  exact ⟨by unfold perB; simp [hc1], K_0⟩
theorem R11_0_l : List.range (regOf Tryd.f11 0).size = [0, 1] := by kernel_rfl
theorem R11_1_l : List.range (regOf Tryd.f11 1).size = [0, 1, 2, 3, 4, 5, 6, 7, 8, 9, 10, 11, 12, 13, 14, 15, 16] := by kernel_rfl
theorem R11_2_l : List.range (regOf Tryd.f11 2).size = [0] := by kernel_rfl
theorem R11_3_l : List.range (regOf Tryd.f11 3).size = [0] := by kernel_rfl
theorem body11 : Tryd.f11.body = some (.seq (.region 0 (regOf Tryd.f11 0) false) (.seq (.seq (.region 1 (regOf Tryd.f11 1) false) (.cond (Operand.tmp 19) (.seq (.region 2 (regOf Tryd.f11 2) false) (.ret)) (.skip))) (.seq (.region 3 (regOf Tryd.f11 3) false) (.ret)))) := by kernel_rfl
theorem P11_0 : (List.range (regOf Tryd.f11 0).size).map (pj (regOf Tryd.f11 0)) = [some (some 1, .box 27 (.tmp 0), 0, none), some (some 2, .assign (.const (.int .i64 0)), 32, none)] := by kernel_rfl
theorem P11_1 : (List.range (regOf Tryd.f11 1).size).map (pj (regOf Tryd.f11 1)) = [some (some 3, .fieldAddr 27 (.tmp 1) 0, 0, none), some (some 4, .load 3 (.tmp 3), 3, none), some (some 5, .call { callee := .value (.func 19), args := #[.tmp 4], argTypes := #[3] }, 4, none), some (some 6, .unOp .not 4 (.tmp 5), 4, none), some (some 7, .move (.tmp 6), 4, none), some (some 8, .fieldAddr 27 (.tmp 1) 1, 0, some (4, false)), some (some 9, .load 3 (.tmp 8), 3, some (4, false)), some (some 10, .call { callee := .value (.func 20), args := #[.tmp 9], argTypes := #[3] }, 4, some (4, false)), some (some 11, .unOp .not 4 (.tmp 10), 4, some (4, false)), some (some 12, .pick (.tmp 7) (.const (.bool true)) (.tmp 11), 4, none), some (some 13, .move (.tmp 12), 4, none), some (some 14, .fieldAddr 27 (.tmp 1) 1, 0, some (10, false)), some (some 15, .load 3 (.tmp 14), 3, some (10, false)), some (some 16, .fieldAddr 27 (.tmp 1) 0, 0, some (10, false)), some (some 17, .load 3 (.tmp 16), 3, some (10, false)), some (some 18, .binOp .eql 3 (.tmp 15) (.tmp 17) 3, 4, some (10, false)), some (some 19, .pick (.tmp 13) (.const (.bool true)) (.tmp 18), 4, none)] := by kernel_rfl
theorem tS3 : (Tryd.prog.info? 3).map (·.size) = some 1 := by kernel_rfl
theorem tA3 : (Tryd.prog.underlying 3).map aggD = some false := by kernel_rfl
theorem g11_1_4 : dstOf (regOf Tryd.f11 1) 4 = some 7 := by kernel_rfl
theorem cl20 : callable Tryd.f20 = true := by kernel_rfl
theorem g11_1_10 : dstOf (regOf Tryd.f11 1) 10 = some 13 := by kernel_rfl
theorem p11_2_0 : pj (regOf Tryd.f11 2) 0 = some (some 2, .assign (.const (.int .i64 1)), 32, none) := by kernel_rfl
theorem p11_3_0 : pj (regOf Tryd.f11 3) 0 = some (some 2, .assign (.const (.int .i64 0)), 32, none) := by kernel_rfl
set_option maxHeartbeats 4000000 in
theorem pcheck (nd pf : Int) (rt : Bool) (g : Nat) (w : World) : Calls Tryd.prog 11 #[.agg #[.int .i64 nd, .int .i64 pf, .bool rt, .pointer (some ⟨g, 0, none⟩)]] w fun e w' => e = .returned (.int .i64 (bif rightV nd pf then 0 else 1)) ∧ Kp w w' (fun _ => False) := by
 have K_0 := Kp.refl w (fun _ => False)
 refine enter (args := [Value.agg #[Value.int .i64 nd, Value.int .i64 pf, Value.bool rt, Value.pointer (some ⟨g, 0, none⟩)]]) (n := 20) Tryd.func11 body11 rfl rfl rfl ?_
 intro a hE
 refine c_reg R11_0_l ?_
 refine p_cons (s_box (pl P11_0 0) hE wn_none rfl rfl ?_)
 clear hE a; intro g1 w2 z3 B_g1 hk a hE
 replace B_g1 : w2.heap[g1]? = some (.cells #[Value.int .i64 nd, Value.int .i64 pf, Value.bool rt, Value.pointer (some ⟨g, 0, none⟩)] 27 (0, 0)) := B_g1
 have z_0_g1 := Nat.le_trans K_0.kept.1 z3
 replace K_0 := K_0.then_ hk (fun _ h => h.elim)
 clear hk
 refine q0 (pl P11_0 1) hE (st_assign rfl) ?_; clear hE a; intro a hE
 refine p_nil (x_norm (wp_seq (c_reg R11_1_l ?_)))
 refine qn hE (rc (pl P11_1 0) (st_fieldAddr Tryd.underlying27 rfl tS3 rfl rfl) (rc (pl P11_1 1) (st_load1 tA3 rfl ((blk_cell B_g1 0).trans rfl)) rn)) ?_; clear hE a; intro a hE
 refine p_cons (s_call (xs := [Operand.tmp 4]) (args := [Value.int .i64 nd]) (pl P11_1 2) hE wn_none rfl rfl Tryd.func19 cl19 (pnode nd _) ?_)
 rintro e w4 ⟨rfl, hk⟩
 replace B_g1 := kp_blk B_g1 hk (fun h => h)
 replace K_0 := K_0.then_ hk (fun _ h => h.elim)
 refine ⟨_, rfl, ?_⟩; clear hE a; intro a hE
 refine qn hE (rc (pl P11_1 3) (st_not rfl rfl) (rc (pl P11_1 4) (st_move rfl) rn)) ?_; clear hE a; intro a hE
 rcases Bool.eq_false_or_eq_true (nodeB nd) with hb5 | hb5
 ·
  rw [hb5] at hE
  refine qn hE (rg (pl P11_1 5) (wn_some g11_1_4 rfl rfl) (st_fieldAddr Tryd.underlying27 rfl tS3 rfl rfl) (rg (pl P11_1 6) (wn_some g11_1_4 rfl rfl) (st_load1 tA3 rfl ((blk_cell B_g1 1).trans rfl)) rn)) ?_; clear hE a; intro a hE
  refine p_cons (s_call (xs := [Operand.tmp 9]) (args := [Value.int .i64 pf]) (pl P11_1 7) hE (wn_some g11_1_4 rfl rfl) rfl rfl Tryd.func20 cl20 (pper pf _) ?_)
  rintro e w6 ⟨rfl, hk⟩
  replace B_g1 := kp_blk B_g1 hk (fun h => h)
  replace K_0 := K_0.then_ hk (fun _ h => h.elim)
  refine ⟨_, rfl, ?_⟩; clear hE a; intro a hE
  refine qn hE (rg (pl P11_1 8) (wn_some g11_1_4 rfl rfl) (st_not rfl rfl) (rc (pl P11_1 9) (st_pick rfl rfl) (rc (pl P11_1 10) (st_move rfl) rn))) ?_; clear hE a; intro a hE
  rcases Bool.eq_false_or_eq_true (perB pf) with hb7 | hb7
  ·
   rw [hb7] at hE
   refine qn hE (rg (pl P11_1 11) (wn_some g11_1_10 rfl rfl) (st_fieldAddr Tryd.underlying27 rfl tS3 rfl rfl) (rg (pl P11_1 12) (wn_some g11_1_10 rfl rfl) (st_load1 tA3 rfl ((blk_cell B_g1 1).trans rfl)) (rg (pl P11_1 13) (wn_some g11_1_10 rfl rfl) (st_fieldAddr Tryd.underlying27 rfl tS3 rfl rfl) (rg (pl P11_1 14) (wn_some g11_1_10 rfl rfl) (st_load1 tA3 rfl ((blk_cell B_g1 0).trans rfl)) rn)))) ?_; clear hE a; intro a hE
   rcases Decidable.em (pf = nd) with hc8 | hc8
   ·
    refine qn hE (rg (v := Value.bool true) (pl P11_1 15) (wn_some g11_1_10 rfl rfl) (st_eql rfl rfl (decide_eq_true hc8)) (rc (pl P11_1 16) (st_pick rfl rfl) rn)) ?_; clear hE a; intro a hE
    refine p_nil (x_norm ?_)
    refine c_cond (t := true) hE rfl ?_
    refine c_reg R11_2_l ?_
    refine q0 p11_2_0 hE (st_assign rfl) ?_; clear hE a; intro a hE
    refine p_nil (x_norm (wp_ret (x_ret ?_)))
    refine ret_one (v := Value.int .i64 1) rfl hE (.tmp rfl .nil) ?_
    have e0 : rightV nd pf = false := by unfold rightV; simp [hb5, hb7, hc8]
    exact ⟨by rw [e0]; rfl, K_0⟩
   ·
    refine qn hE (rg (v := Value.bool false) (pl P11_1 15) (wn_some g11_1_10 rfl rfl) (st_eql rfl rfl (decide_eq_false hc8)) (rc (pl P11_1 16) (st_pick rfl rfl) rn)) ?_; clear hE a; intro a hE
    refine p_nil (x_norm ?_)
    refine c_cond (t := false) hE rfl ?_
    refine wp_skip (x_norm (c_reg R11_3_l ?_))
    refine q0 p11_3_0 hE (st_assign rfl) ?_; clear hE a; intro a hE
    refine p_nil (x_norm (wp_ret ?_))
    refine ret_one (v := Value.int .i64 0) rfl hE (.tmp rfl .nil) ?_
    have e0 : rightV nd pf = true := by unfold rightV; simp [hb5, hb7, hc8]
    exact ⟨by rw [e0]; rfl, K_0⟩
  ·
   rw [hb7] at hE
   refine qn hE (rk (pl P11_1 11) (wn_some g11_1_10 rfl rfl) (rk (pl P11_1 12) (wn_some g11_1_10 rfl rfl) (rk (pl P11_1 13) (wn_some g11_1_10 rfl rfl) (rk (pl P11_1 14) (wn_some g11_1_10 rfl rfl) (rk (pl P11_1 15) (wn_some g11_1_10 rfl rfl) (rc (pl P11_1 16) (st_pick rfl rfl) rn)))))) ?_; clear hE a; intro a hE
   refine p_nil (x_norm ?_)
   refine c_cond (t := true) hE rfl ?_
   refine c_reg R11_2_l ?_
   refine q0 p11_2_0 hE (st_assign rfl) ?_; clear hE a; intro a hE
   refine p_nil (x_norm (wp_ret (x_ret ?_)))
   refine ret_one (v := Value.int .i64 1) rfl hE (.tmp rfl .nil) ?_
   have e0 : rightV nd pf = false := by unfold rightV; simp [hb5, hb7]
   exact ⟨by rw [e0]; rfl, K_0⟩
 ·
  rw [hb5] at hE
  refine qn hE (rk (pl P11_1 5) (wn_some g11_1_4 rfl rfl) (rk (pl P11_1 6) (wn_some g11_1_4 rfl rfl) (rk (pl P11_1 7) (wn_some g11_1_4 rfl rfl) (rk (pl P11_1 8) (wn_some g11_1_4 rfl rfl) (rc (pl P11_1 9) (st_pick rfl rfl) (rc (pl P11_1 10) (st_move rfl) (rk (pl P11_1 11) (wn_some g11_1_10 rfl rfl) (rk (pl P11_1 12) (wn_some g11_1_10 rfl rfl) (rk (pl P11_1 13) (wn_some g11_1_10 rfl rfl) (rk (pl P11_1 14) (wn_some g11_1_10 rfl rfl) (rk (pl P11_1 15) (wn_some g11_1_10 rfl rfl) (rc (pl P11_1 16) (st_pick rfl rfl) rn)))))))))))) ?_; clear hE a; intro a hE
  refine p_nil (x_norm ?_)
  refine c_cond (t := true) hE rfl ?_
  refine c_reg R11_2_l ?_
  refine q0 p11_2_0 hE (st_assign rfl) ?_; clear hE a; intro a hE
  refine p_nil (x_norm (wp_ret (x_ret ?_)))
  refine ret_one (v := Value.int .i64 1) rfl hE (.tmp rfl .nil) ?_
  have e0 : rightV nd pf = false := by unfold rightV; simp [hb5]
  exact ⟨by rw [e0]; rfl, K_0⟩

theorem R6_0_l : List.range (regOf Tryd.f6 0).size = [0, 1, 2] := by kernel_rfl
theorem R6_1_l : List.range (regOf Tryd.f6 1).size = [0, 1, 2, 3, 4, 5, 6, 7, 8, 9, 10, 11, 12] := by kernel_rfl
theorem R6_2_l : List.range (regOf Tryd.f6 2).size = [0, 1, 2] := by kernel_rfl
theorem R6_3_l : List.range (regOf Tryd.f6 3).size = [0, 1, 2, 3] := by kernel_rfl
theorem R6_4_l : List.range (regOf Tryd.f6 4).size = [0, 1, 2] := by kernel_rfl
theorem R6_5_l : List.range (regOf Tryd.f6 5).size = [0, 1, 2, 3, 4, 5, 6, 7, 8, 9] := by kernel_rfl
theorem R6_6_l : List.range (regOf Tryd.f6 6).size = [0, 1] := by kernel_rfl
theorem R6_7_l : List.range (regOf Tryd.f6 7).size = [0, 1, 2, 3, 4] := by kernel_rfl
theorem R6_8_l : List.range (regOf Tryd.f6 8).size = [0, 1, 2, 3, 4, 5] := by kernel_rfl
theorem R6_9_l : List.range (regOf Tryd.f6 9).size = [0, 1, 2, 3] := by kernel_rfl
theorem R6_10_l : List.range (regOf Tryd.f6 10).size = [0, 1, 2, 3, 4, 5, 6, 7] := by kernel_rfl
theorem R6_11_l : List.range (regOf Tryd.f6 11).size = [0, 1, 2] := by kernel_rfl
theorem R6_12_l : List.range (regOf Tryd.f6 12).size = [0, 1, 2, 3, 4] := by kernel_rfl
theorem body6 : Tryd.f6.body = some (.seq (.region 0 (regOf Tryd.f6 0) false) (.seq (.seq (.region 1 (regOf Tryd.f6 1) false) (.cond (Operand.tmp 24) (.seq (.region 2 (regOf Tryd.f6 2) false) (.ret)) (.skip))) (.seq (.seq (.region 3 (regOf Tryd.f6 3) false) (.cond (Operand.tmp 29) (.seq (.region 4 (regOf Tryd.f6 4) false) (.ret)) (.skip))) (.seq (.seq (.region 5 (regOf Tryd.f6 5) false) (.seq (.region 6 (regOf Tryd.f6 6) false) (.cond (Operand.tmp 39) (.seq (.region 7 (regOf Tryd.f6 7) false) (.ret)) (.skip)))) (.seq (.block 0 (.seq (.region 8 (regOf Tryd.f6 8) false) (.cond (Operand.tmp 43) (.seq (.region 9 (regOf Tryd.f6 9) false) (.ret)) (.seq (.region 10 (regOf Tryd.f6 10) false) (.cond (Operand.tmp 51) (.seq (.region 11 (regOf Tryd.f6 11) false) (.ret)) (.skip)))))) (.seq (.region 12 (regOf Tryd.f6 12) false) (.ret))))))) := by kernel_rfl
theorem P6_0 : (List.range (regOf Tryd.f6 0).size).map (pj (regOf Tryd.f6 0)) = [some (some 4, .box 27 (.tmp 0), 0, none), some (some 8, .alloc 31, 0, none), some (some 9, .assign (.const (.int .i64 0)), 32, none)] := by kernel_rfl
theorem tZ31 : (Tryd.prog.info? 31).bind (·.zero) = some (Value.agg #[Value.int .i64 0, Value.int .i64 0, Value.bool false]) := by kernel_rfl
theorem P6_1 : (List.range (regOf Tryd.f6 1).size).map (pj (regOf Tryd.f6 1)) = [some (some 12, .load 27 (.tmp 4), 27, none), some (some 13, .call { callee := .value (.func 11), args := #[.tmp 12], argTypes := #[27] }, 32, none), some (some 14, .binOp .neq 32 (.tmp 13) (.const (.int .i64 0)) 32, 4, none), some (some 15, .move (.tmp 14), 4, none), some (some 16, .move (.tmp 1), 3, some (3, false)), some (some 17, .call { callee := .value (.func 19), args := #[.tmp 16], argTypes := #[3] }, 4, some (3, false)), some (some 18, .unOp .not 4 (.tmp 17), 4, some (3, false)), some (some 19, .pick (.tmp 15) (.const (.bool true)) (.tmp 18), 4, none), some (some 20, .move (.tmp 19), 4, none), some (some 21, .move (.tmp 2), 3, some (8, false)), some (some 22, .call { callee := .value (.func 20), args := #[.tmp 21], argTypes := #[3] }, 4, some (8, false)), some (some 23, .unOp .not 4 (.tmp 22), 4, some (8, false)), some (some 24, .pick (.tmp 20) (.const (.bool true)) (.tmp 23), 4, none)] := by kernel_rfl
theorem tA27 : (Tryd.prog.underlying 27).map aggD = some true := by kernel_rfl
theorem tS27 : (Tryd.prog.info? 27).map (·.size) = some 4 := by kernel_rfl
theorem cl11 : callable Tryd.f11 = true := by kernel_rfl
theorem g6_1_3 : dstOf (regOf Tryd.f6 1) 3 = some 15 := by kernel_rfl
theorem g6_1_8 : dstOf (regOf Tryd.f6 1) 8 = some 20 := by kernel_rfl
theorem P6_3 : (List.range (regOf Tryd.f6 3).size).map (pj (regOf Tryd.f6 3)) = [some (some 26, .move (.tmp 1), 3, none), some (some 27, .fieldAddr 27 (.tmp 4) 0, 0, none), some (some 28, .load 3 (.tmp 27), 3, none), some (some 29, .binOp .eql 3 (.tmp 26) (.tmp 28) 3, 4, none)] := by kernel_rfl
theorem P6_4 : (List.range (regOf Tryd.f6 4).size).map (pj (regOf Tryd.f6 4)) = [some (some 30, .build 31 #[(0, .const (.int .i64 0)), (1, .const (.int .i64 (-1))), (2, .const (.bool false))], 31, none), some (none, .store 31 (.tmp 8) (.tmp 30), 0, none), some (some 9, .assign (.const (.int .i64 0)), 32, none)] := by kernel_rfl
theorem tS31 : (Tryd.prog.info? 31).map (·.size) = some 3 := by kernel_rfl
theorem tA31 : (Tryd.prog.underlying 31).map aggD = some true := by kernel_rfl
theorem P6_5 : (List.range (regOf Tryd.f6 5).size).map (pj (regOf Tryd.f6 5)) = [some (some 32, .fieldAddr 27 (.tmp 4) 3, 0, none), some (some 33, .load 25 (.tmp 32), 25, none), some (some 34, .move (.tmp 1), 3, none), some (some 35, .call { callee := .value (.func 21), args := #[.tmp 33, .tmp 34], argTypes := #[25, 3] }, 63, none), some (some 31, .move (.tmp 35), 63, none), some (some 36, .extract (.tmp 31) 0, 59, none), some (some 37, .extract (.tmp 31) 1, 32, none), some (some 10, .alloc 59, 0, none), some (none, .store 59 (.tmp 10) (.tmp 36), 0, none), some (some 11, .assign (.tmp 37), 32, none)] := by kernel_rfl
theorem tS25 : (Tryd.prog.info? 25).map (·.size) = some 1 := by kernel_rfl
theorem tA25 : (Tryd.prog.underlying 25).map aggD = some false := by kernel_rfl
theorem cl21 : callable Tryd.f21 = true := by kernel_rfl
theorem tZ59 : (Tryd.prog.info? 59).bind (·.zero) = some (Value.agg #[Value.int .i64 0, Value.int .i64 0, Value.int .i64 0, Value.int .i64 0]) := by kernel_rfl
theorem tS59 : (Tryd.prog.info? 59).map (·.size) = some 4 := by kernel_rfl
theorem P6_6 : (List.range (regOf Tryd.f6 6).size).map (pj (regOf Tryd.f6 6)) = [some (some 38, .move (.tmp 11), 32, none), some (some 39, .binOp .eql 32 (.tmp 38) (.const (.int .i64 0)) 32, 4, none)] := by kernel_rfl
theorem P6_7 : (List.range (regOf Tryd.f6 7).size).map (pj (regOf Tryd.f6 7)) = [some (some 40, .fieldAddr 59 (.tmp 10) 1, 0, none), some (some 41, .load 3 (.tmp 40), 3, none), some (some 42, .build 31 #[(0, .const (.int .i64 1)), (1, .tmp 41), (2, .const (.bool true))], 31, none), some (none, .store 31 (.tmp 8) (.tmp 42), 0, none), some (some 9, .assign (.const (.int .i64 0)), 32, none)] := by kernel_rfl
theorem P6_8 : (List.range (regOf Tryd.f6 8).size).map (pj (regOf Tryd.f6 8)) = [some (some 44, .move (.tmp 3), 4, none), some (some 45, .move (.tmp 44), 4, none), some (some 46, .move (.tmp 2), 3, some (1, true)), some (some 47, .binOp .neq 3 (.tmp 46) (.const (.int .i64 (-1))) 3, 4, some (1, true)), some (some 48, .pick (.tmp 45) (.tmp 47) (.const (.bool false)), 4, none), some (some 43, .assign (.tmp 48), 4, none)] := by kernel_rfl
theorem g6_8_1 : dstOf (regOf Tryd.f6 8) 1 = some 45 := by kernel_rfl
theorem P6_10 : (List.range (regOf Tryd.f6 10).size).map (pj (regOf Tryd.f6 10)) = [some (some 52, .fieldAddr 27 (.tmp 4) 2, 0, none), some (some 53, .load 4 (.tmp 52), 4, none), some (some 54, .move (.tmp 53), 4, none), some (some 55, .fieldAddr 27 (.tmp 4) 1, 0, some (2, false)), some (some 56, .load 3 (.tmp 55), 3, some (2, false)), some (some 57, .binOp .eql 3 (.tmp 56) (.const (.int .i64 (-1))) 3, 4, some (2, false)), some (some 58, .pick (.tmp 54) (.const (.bool true)) (.tmp 57), 4, none), some (some 51, .assign (.tmp 58), 4, none)] := by kernel_rfl
theorem tS4 : (Tryd.prog.info? 4).map (·.size) = some 1 := by kernel_rfl
theorem tA4 : (Tryd.prog.underlying 4).map aggD = some false := by kernel_rfl
theorem g6_10_2 : dstOf (regOf Tryd.f6 10) 2 = some 54 := by kernel_rfl
theorem P6_11 : (List.range (regOf Tryd.f6 11).size).map (pj (regOf Tryd.f6 11)) = [some (some 59, .build 31 #[(0, .const (.int .i64 4)), (1, .const (.int .i64 (-1))), (2, .const (.bool false))], 31, none), some (none, .store 31 (.tmp 8) (.tmp 59), 0, none), some (some 9, .assign (.const (.int .i64 0)), 32, none)] := by kernel_rfl
theorem P6_12 : (List.range (regOf Tryd.f6 12).size).map (pj (regOf Tryd.f6 12)) = [some (some 60, .fieldAddr 27 (.tmp 4) 1, 0, none), some (some 61, .load 3 (.tmp 60), 3, none), some (some 62, .build 31 #[(0, .const (.int .i64 2)), (1, .tmp 61), (2, .const (.bool false))], 31, none), some (none, .store 31 (.tmp 8) (.tmp 62), 0, none), some (some 9, .assign (.const (.int .i64 0)), 32, none)] := by kernel_rfl
theorem P6_9 : (List.range (regOf Tryd.f6 9).size).map (pj (regOf Tryd.f6 9)) = [some (some 49, .move (.tmp 2), 3, none), some (some 50, .build 31 #[(0, .const (.int .i64 3)), (1, .tmp 49), (2, .const (.bool true))], 31, none), some (none, .store 31 (.tmp 8) (.tmp 50), 0, none), some (some 9, .assign (.const (.int .i64 0)), 32, none)] := by kernel_rfl
theorem P6_2 : (List.range (regOf Tryd.f6 2).size).map (pj (regOf Tryd.f6 2)) = [some (some 25, .build 31 #[], 31, none), some (none, .store 31 (.tmp 8) (.tmp 25), 0, none), some (some 9, .assign (.const (.int .i64 1)), 32, none)] := by kernel_rfl
set_option maxHeartbeats 4000000 in
theorem next_any (g gm ck : Nat) (es : Array MapEntry) (l : List (Int × R4)) (nd pf : Int) (rt : Bool) (tg fr : Int) (dn : Bool) (w : World) (hok9 : ∀ {x o}, getI l x = some o → okR o = true) (hg : w.heap[g]? = some (.cells #[.int .i64 32, .map (some gm)] 79 (0, 0))) (hm : w.heap[gm]? = some (.map es ck)) (hF : MapI encR es ck l) : Calls Tryd.prog 6 #[.agg #[.int .i64 nd, .int .i64 pf, .bool rt, .pointer (some ⟨g, 0, none⟩)], .int .i64 tg, .int .i64 fr, .bool dn] w fun e w' => e = .returned (hopV (nextF nd pf rt (viaL l tg) tg fr dn)) ∧ Kp w w' (fun _ => False) := by
 have K_0 := Kp.refl w (fun _ => False)
 have B_g := hg
 have B_gm := hm
 refine enter (args := [Value.agg #[Value.int .i64 nd, Value.int .i64 pf, Value.bool rt, Value.pointer (some ⟨g, 0, none⟩)], Value.int .i64 tg, Value.int .i64 fr, Value.bool dn]) (n := 63) Tryd.func6 body6 rfl rfl rfl ?_
 intro a hE
 refine c_reg R6_0_l ?_
 refine p_cons (s_box (pl P6_0 0) hE wn_none rfl rfl ?_)
 clear hE a; intro g1 w2 z3 B_g1 hk a hE
 replace B_g1 : w2.heap[g1]? = some (.cells #[Value.int .i64 nd, Value.int .i64 pf, Value.bool rt, Value.pointer (some ⟨g, 0, none⟩)] 27 (0, 0)) := B_g1
 have n_g_g1 : g ≠ g1 := ne_new B_g z3
 have n_gm_g1 : gm ≠ g1 := ne_new B_gm z3
 have z_0_g1 := Nat.le_trans K_0.kept.1 z3
 replace B_g := kp_blk B_g hk (fun h => h)
 replace B_gm := kp_blk B_gm hk (fun h => h)
 replace K_0 := K_0.then_ hk (fun _ h => h.elim)
 clear hk
 refine p_cons (s_alloc (pl P6_0 1) hE wn_none rfl tZ31 ?_)
 clear hE a; intro g4 w5 z6 B_g4 hk a hE
 replace B_g4 : w5.heap[g4]? = some (.cells #[Value.int .i64 0, Value.int .i64 0, Value.bool false] 31 (0, 0)) := B_g4
 have n_g_g4 : g ≠ g4 := ne_new B_g z6
 have n_gm_g4 : gm ≠ g4 := ne_new B_gm z6
 have n_g1_g4 : g1 ≠ g4 := ne_new B_g1 z6
 have z_0_g4 := Nat.le_trans K_0.kept.1 z6
 replace B_g := kp_blk B_g hk (fun h => h)
 replace B_gm := kp_blk B_gm hk (fun h => h)
 replace B_g1 := kp_blk B_g1 hk (fun h => h)
 replace K_0 := K_0.then_ hk (fun _ h => h.elim)
 clear hk
 refine q0 (pl P6_0 2) hE (st_assign rfl) ?_; clear hE a; intro a hE
 refine p_nil (x_norm (wp_seq ?_))
 rcases Decidable.em (rightV nd pf = true) with hRV | hRV
 ·
  refine c_reg R6_1_l ?_
  refine q0 (pl P6_1 0) hE (st_loadN (off := 0) (k := 4) (vs := [Value.int .i64 nd, Value.int .i64 pf, Value.bool rt, Value.pointer (some ⟨g, 0, none⟩)]) tA27 tS27 rfl B_g1 rfl rfl) ?_; clear hE a; intro a hE
  refine p_cons (s_call (xs := [Operand.tmp 12]) (args := [Value.agg #[Value.int .i64 nd, Value.int .i64 pf, Value.bool rt, Value.pointer (some ⟨g, 0, none⟩)]]) (pl P6_1 1) hE wn_none rfl rfl Tryd.func11 cl11 (pcheck nd pf rt g _) ?_)
  rintro e w7 ⟨rfl, hk⟩
  replace B_g := kp_blk B_g hk (fun h => h)
  replace B_gm := kp_blk B_gm hk (fun h => h)
  replace B_g1 := kp_blk B_g1 hk (fun h => h)
  replace B_g4 := kp_blk B_g4 hk (fun h => h)
  replace K_0 := K_0.then_ hk (fun _ h => h.elim)
  refine ⟨_, rfl, ?_⟩; clear hE a; intro a hE
  refine qn hE (rc (pl P6_1 2) (st_neq (b := false) rfl rfl (by rw [hRV]; rfl)) (rc (pl P6_1 3) (st_move rfl) (rg (pl P6_1 4) (wn_some g6_1_3 rfl rfl) (st_move rfl) rn))) ?_; clear hE a; intro a hE
  refine p_cons (s_call (xs := [Operand.tmp 16]) (args := [Value.int .i64 tg]) (pl P6_1 5) hE (wn_some g6_1_3 rfl rfl) rfl rfl Tryd.func19 cl19 (pnode tg _) ?_)
  rintro e w8 ⟨rfl, hk⟩
  replace B_g := kp_blk B_g hk (fun h => h)
  replace B_gm := kp_blk B_gm hk (fun h => h)
  replace B_g1 := kp_blk B_g1 hk (fun h => h)
  replace B_g4 := kp_blk B_g4 hk (fun h => h)
  replace K_0 := K_0.then_ hk (fun _ h => h.elim)
  refine ⟨_, rfl, ?_⟩; clear hE a; intro a hE
  refine qn hE (rg (pl P6_1 6) (wn_some g6_1_3 rfl rfl) (st_not rfl rfl) (rc (pl P6_1 7) (st_pick rfl rfl) (rc (pl P6_1 8) (st_move rfl) rn))) ?_; clear hE a; intro a hE
  rcases Bool.eq_false_or_eq_true (nodeB tg) with hb9 | hb9
  ·
   rw [hb9] at hE
   refine p_cons (s_still (pl P6_1 9) hE (wn_some g6_1_8 rfl rfl) rfl (st_move rfl) ?_); clear hE a; intro a hE
   refine p_cons (s_call (xs := [Operand.tmp 21]) (args := [Value.int .i64 fr]) (pl P6_1 10) hE (wn_some g6_1_8 rfl rfl) rfl rfl Tryd.func20 cl20 (pper fr _) ?_)
   rintro e w10 ⟨rfl, hk⟩
   replace B_g := kp_blk B_g hk (fun h => h)
   replace B_gm := kp_blk B_gm hk (fun h => h)
   replace B_g1 := kp_blk B_g1 hk (fun h => h)
   replace B_g4 := kp_blk B_g4 hk (fun h => h)
   replace K_0 := K_0.then_ hk (fun _ h => h.elim)
   refine ⟨_, rfl, ?_⟩; clear hE a; intro a hE
   refine qn hE (rg (pl P6_1 11) (wn_some g6_1_8 rfl rfl) (st_not rfl rfl) (rc (pl P6_1 12) (st_pick rfl rfl) rn)) ?_; clear hE a; intro a hE
   refine p_nil (x_norm ?_)
   rcases Bool.eq_false_or_eq_true (perB fr) with hb11 | hb11
   ·
    rw [hb11] at hE
    refine c_cond (t := false) hE rfl ?_
    refine wp_skip (x_norm (wp_seq (c_reg R6_3_l ?_)))
    refine qn hE (rc (pl P6_3 0) (st_move rfl) (rc (pl P6_3 1) (st_fieldAddr Tryd.underlying27 rfl tS3 rfl rfl) (rc (pl P6_3 2) (st_load1 tA3 rfl ((blk_cell B_g1 0).trans rfl)) rn))) ?_; clear hE a; intro a hE
    rcases Decidable.em (tg = nd) with hc12 | hc12
    ·
     refine p_cons (s_still (v := Value.bool true) (pl P6_3 3) hE wn_none rfl (st_eql rfl rfl (decide_eq_true hc12)) ?_); clear hE a; intro a hE
     refine p_nil (x_norm ?_)
     refine c_cond (t := true) hE rfl ?_
     refine c_reg R6_4_l ?_
     refine q0 (pl P6_4 0) hE (st_build (xs := [(0, Operand.const (Value.int IntKind.i64 0)), (1, Operand.const (Value.int IntKind.i64 (-1))), (2, Operand.const (Value.bool false))]) (vs := [(0, Value.int .i64 0), (1, Value.int .i64 (-1)), (2, Value.bool false)]) (cs := #[Value.int .i64 0, Value.int .i64 (-1), Value.bool false]) rfl (by kernel_rfl)) ?_; clear hE a; intro a hE
     refine p_cons (s_store (off := 0) (k := 3) (cs' := #[Value.int .i64 0, Value.int .i64 (-1), Value.bool false]) (pl P6_4 1) hE wn_none tS31 rfl rfl rfl rfl B_g4 (Nat.le_of_ble_eq_true rfl) rfl ?_)
     intro w13 B_g4' hk
     replace B_g := kp_blk B_g hk n_g_g4
     replace B_gm := kp_blk B_gm hk n_gm_g4
     replace B_g1 := kp_blk B_g1 hk n_g1_g4
     replace K_0 := K_0.then_ hk (fun k h => by rw [show k = g4 from h]; exact Or.inr z_0_g4)
     replace B_g4 := B_g4'
     clear hk
     refine q0 (pl P6_4 2) hE (st_assign rfl) ?_; clear hE a; intro a hE
     refine p_nil (x_norm (wp_ret (x_ret ?_)))
     refine ret_list (rs := [.cell 8 31, .tmp 9]) (vs := [Value.agg #[Value.int .i64 0, Value.int .i64 (-1), Value.bool false], Value.int .i64 0]) rfl hE (.cellN (us := [Value.int .i64 0, Value.int .i64 (-1), Value.bool false]) tA31 tS31 rfl B_g4 rfl (.tmp rfl .nil)) rfl ?_
     have e0 : (rightV nd pf && nodeB tg && perB fr) = true := by
      simp only [hRV, hb9, hb11, decide_eq_true hc12, Bool.and_true, Bool.true_and, Bool.and_false, Bool.false_and, Bool.or_true, Bool.true_or, Bool.or_false, Bool.false_or, Bool.not_true, Bool.not_false, Bool.and_self, Bool.or_self]
     exact ⟨by unfold nextF; rw [if_pos e0, if_pos hc12]; rfl, K_0⟩
    ·
     refine p_cons (s_still (v := Value.bool false) (pl P6_3 3) hE wn_none rfl (st_eql rfl rfl (decide_eq_false hc12)) ?_); clear hE a; intro a hE
     refine p_nil (x_norm ?_)
     refine c_cond (t := false) hE rfl ?_
     refine wp_skip (x_norm (wp_seq ?_))
     rcases Decidable.em ((getI l tg).isSome = true) with hHAS | hHAS
     ·
      obtain ⟨o, ho⟩ := Option.isSome_iff_exists.1 hHAS
      have hv : viaL l tg = o.2.1 := by unfold viaL; rw [ho]
      rw [hv]
      have hob9 := okR_b (hok9 ho)
      refine c_reg R6_5_l ?_
      refine qn hE (rc (pl P6_5 0) (st_fieldAddr Tryd.underlying27 rfl tS25 rfl rfl) (rc (pl P6_5 1) (st_load1 tA25 rfl ((blk_cell B_g1 3).trans rfl)) (rc (pl P6_5 2) (st_move rfl) rn))) ?_; clear hE a; intro a hE
      refine p_cons (s_call (xs := [Operand.tmp 33, Operand.tmp 34]) (args := [Value.pointer (some ⟨g, 0, none⟩), Value.int .i64 tg]) (pl P6_5 3) hE wn_none rfl rfl Tryd.func21 cl21 (get_s g gm ck es l tg o ho _ B_g B_gm hF) ?_)
      rintro e w14 ⟨rfl, hk⟩
      replace B_g := kp_blk B_g hk (fun h => h)
      replace B_gm := kp_blk B_gm hk (fun h => h)
      replace B_g1 := kp_blk B_g1 hk (fun h => h)
      replace B_g4 := kp_blk B_g4 hk (fun h => h)
      replace K_0 := K_0.then_ hk (fun _ h => h.elim)
      refine ⟨_, rfl, ?_⟩; clear hE a; intro a hE
      refine qn hE (rc (pl P6_5 4) (st_move rfl) (rc (pl P6_5 5) (st_extract rfl rfl) (rc (pl P6_5 6) (st_extract rfl rfl) rn))) ?_; clear hE a; intro a hE
      refine p_cons (s_alloc (pl P6_5 7) hE wn_none rfl tZ59 ?_)
      clear hE a; intro g15 w16 z17 B_g15 hk a hE
      replace B_g15 : w16.heap[g15]? = some (.cells #[Value.int .i64 0, Value.int .i64 0, Value.int .i64 0, Value.int .i64 0] 59 (0, 0)) := B_g15
      have n_g_g15 : g ≠ g15 := ne_new B_g z17
      have n_gm_g15 : gm ≠ g15 := ne_new B_gm z17
      have n_g1_g15 : g1 ≠ g15 := ne_new B_g1 z17
      have n_g4_g15 : g4 ≠ g15 := ne_new B_g4 z17
      have z_0_g15 := Nat.le_trans K_0.kept.1 z17
      replace B_g := kp_blk B_g hk (fun h => h)
      replace B_gm := kp_blk B_gm hk (fun h => h)
      replace B_g1 := kp_blk B_g1 hk (fun h => h)
      replace B_g4 := kp_blk B_g4 hk (fun h => h)
      replace K_0 := K_0.then_ hk (fun _ h => h.elim)
      clear hk
      refine p_cons (s_store (off := 0) (k := 4) (cs' := #[Value.int .i64 o.1, Value.int .i64 o.2.1, Value.int .i64 o.2.2.1, Value.int .i64 o.2.2.2]) (pl P6_5 8) hE wn_none tS59 rfl rfl rfl rfl B_g15 (Nat.le_of_ble_eq_true rfl) rfl ?_)
      intro w18 B_g15' hk
      replace B_g := kp_blk B_g hk n_g_g15
      replace B_gm := kp_blk B_gm hk n_gm_g15
      replace B_g1 := kp_blk B_g1 hk n_g1_g15
      replace B_g4 := kp_blk B_g4 hk n_g4_g15
      replace K_0 := K_0.then_ hk (fun k h => by rw [show k = g15 from h]; exact Or.inr z_0_g15)
      replace B_g15 := B_g15'
      clear hk
      refine q0 (pl P6_5 9) hE (st_assign rfl) ?_; clear hE a; intro a hE
      refine p_nil (x_norm (c_reg R6_6_l ?_))
      refine qn hE (rc (pl P6_6 0) (st_move rfl) (rc (pl P6_6 1) (st_eql (b := true) rfl rfl (by decide)) rn)) ?_; clear hE a; intro a hE
      refine p_nil (x_norm ?_)
      refine c_cond (t := true) hE rfl ?_
      refine c_reg R6_7_l ?_
      refine qn hE (rc (pl P6_7 0) (st_fieldAddr Tryd.underlying59 rfl tS3 rfl rfl) (rc (pl P6_7 1) (st_load1 tA3 rfl ((blk_cell B_g15 1).trans rfl)) (rc (pl P6_7 2) (st_build (xs := [(0, Operand.const (Value.int IntKind.i64 1)), (1, Operand.tmp 41), (2, Operand.const (Value.bool true))]) (vs := [(0, Value.int .i64 1), (1, Value.int .i64 o.2.1), (2, Value.bool true)]) (cs := #[Value.int .i64 1, Value.int .i64 o.2.1, Value.bool true]) rfl (by kernel_rfl)) rn))) ?_; clear hE a; intro a hE
      refine p_cons (s_store (off := 0) (k := 3) (cs' := #[Value.int .i64 1, Value.int .i64 o.2.1, Value.bool true]) (pl P6_7 3) hE wn_none tS31 rfl rfl rfl rfl B_g4 (Nat.le_of_ble_eq_true rfl) rfl ?_)
      intro w19 B_g4' hk
      replace B_g := kp_blk B_g hk n_g_g4
      replace B_gm := kp_blk B_gm hk n_gm_g4
      replace B_g1 := kp_blk B_g1 hk n_g1_g4
      replace B_g15 := kp_blk B_g15 hk (Ne.symm n_g4_g15)
      replace K_0 := K_0.then_ hk (fun k h => by rw [show k = g4 from h]; exact Or.inr z_0_g4)
      replace B_g4 := B_g4'
      clear hk
      refine q0 (pl P6_7 4) hE (st_assign rfl) ?_; clear hE a; intro a hE
      refine p_nil (x_norm (wp_ret (x_ret ?_)))
      refine ret_list (rs := [.cell 8 31, .tmp 9]) (vs := [Value.agg #[Value.int .i64 1, Value.int .i64 o.2.1, Value.bool true], Value.int .i64 0]) rfl hE (.cellN (us := [Value.int .i64 1, Value.int .i64 o.2.1, Value.bool true]) tA31 tS31 rfl B_g4 rfl (.tmp rfl .nil)) rfl ?_
      have e0 : (rightV nd pf && nodeB tg && perB fr) = true := by
       simp only [hRV, hb9, hb11, decide_eq_false hc12, Bool.and_true, Bool.true_and, Bool.and_false, Bool.false_and, Bool.or_true, Bool.true_or, Bool.or_false, Bool.false_or, Bool.not_true, Bool.not_false, Bool.and_self, Bool.or_self]
      exact ⟨by unfold nextF; rw [if_pos e0, if_neg hc12, if_pos (by omega)]; rfl, K_0⟩
     ·
      have ho := Option.not_isSome_iff_eq_none.1 hHAS
      have hv : viaL l tg = -1 := by unfold viaL; rw [ho]
      rw [hv]
      refine c_reg R6_5_l ?_
      refine qn hE (rc (pl P6_5 0) (st_fieldAddr Tryd.underlying27 rfl tS25 rfl rfl) (rc (pl P6_5 1) (st_load1 tA25 rfl ((blk_cell B_g1 3).trans rfl)) (rc (pl P6_5 2) (st_move rfl) rn))) ?_; clear hE a; intro a hE
      refine p_cons (s_call (xs := [Operand.tmp 33, Operand.tmp 34]) (args := [Value.pointer (some ⟨g, 0, none⟩), Value.int .i64 tg]) (pl P6_5 3) hE wn_none rfl rfl Tryd.func21 cl21 (get_n g gm ck es l tg ho _ B_g B_gm hF) ?_)
      rintro e w20 ⟨rfl, hk⟩
      replace B_g := kp_blk B_g hk (fun h => h)
      replace B_gm := kp_blk B_gm hk (fun h => h)
      replace B_g1 := kp_blk B_g1 hk (fun h => h)
      replace B_g4 := kp_blk B_g4 hk (fun h => h)
      replace K_0 := K_0.then_ hk (fun _ h => h.elim)
      refine ⟨_, rfl, ?_⟩; clear hE a; intro a hE
      refine qn hE (rc (pl P6_5 4) (st_move rfl) (rc (pl P6_5 5) (st_extract rfl rfl) (rc (pl P6_5 6) (st_extract rfl rfl) rn))) ?_; clear hE a; intro a hE
      refine p_cons (s_alloc (pl P6_5 7) hE wn_none rfl tZ59 ?_)
      clear hE a; intro g21 w22 z23 B_g21 hk a hE
      replace B_g21 : w22.heap[g21]? = some (.cells #[Value.int .i64 0, Value.int .i64 0, Value.int .i64 0, Value.int .i64 0] 59 (0, 0)) := B_g21
      have n_g_g21 : g ≠ g21 := ne_new B_g z23
      have n_gm_g21 : gm ≠ g21 := ne_new B_gm z23
      have n_g1_g21 : g1 ≠ g21 := ne_new B_g1 z23
      have n_g4_g21 : g4 ≠ g21 := ne_new B_g4 z23
      have z_0_g21 := Nat.le_trans K_0.kept.1 z23
      replace B_g := kp_blk B_g hk (fun h => h)
      replace B_gm := kp_blk B_gm hk (fun h => h)
      replace B_g1 := kp_blk B_g1 hk (fun h => h)
      replace B_g4 := kp_blk B_g4 hk (fun h => h)
      replace K_0 := K_0.then_ hk (fun _ h => h.elim)
      clear hk
      refine p_cons (s_store (off := 0) (k := 4) (cs' := #[Value.int .i64 0, Value.int .i64 0, Value.int .i64 0, Value.int .i64 0]) (pl P6_5 8) hE wn_none tS59 rfl rfl rfl rfl B_g21 (Nat.le_of_ble_eq_true rfl) rfl ?_)
      intro w24 B_g21' hk
      replace B_g := kp_blk B_g hk n_g_g21
      replace B_gm := kp_blk B_gm hk n_gm_g21
      replace B_g1 := kp_blk B_g1 hk n_g1_g21
      replace B_g4 := kp_blk B_g4 hk n_g4_g21
      replace K_0 := K_0.then_ hk (fun k h => by rw [show k = g21 from h]; exact Or.inr z_0_g21)
      replace B_g21 := B_g21'
      clear hk
      refine q0 (pl P6_5 9) hE (st_assign rfl) ?_; clear hE a; intro a hE
      refine p_nil (x_norm (c_reg R6_6_l ?_))
      refine qn hE (rc (pl P6_6 0) (st_move rfl) (rc (pl P6_6 1) (st_eql (b := false) rfl rfl (by decide)) rn)) ?_; clear hE a; intro a hE
      refine p_nil (x_norm ?_)
      refine c_cond (t := false) hE rfl ?_
      refine wp_skip (x_norm (wp_seq (wp_block (c_reg R6_8_l ?_))))
      refine qn hE (rc (pl P6_8 0) (st_move rfl) (rc (pl P6_8 1) (st_move rfl) rn)) ?_; clear hE a; intro a hE
      rcases Bool.eq_false_or_eq_true dn with hb25 | hb25
      ·
       rw [hb25] at hE
       refine p_cons (s_still (pl P6_8 2) hE (wn_some g6_8_1 rfl rfl) rfl (st_move rfl) ?_); clear hE a; intro a hE
       rcases Decidable.em (fr = -1) with hc26 | hc26
       ·
        refine qn hE (rg (v := Value.bool false) (pl P6_8 3) (wn_some g6_8_1 rfl rfl) (st_neq rfl rfl (by rw [decide_eq_true hc26]; rfl)) (rc (pl P6_8 4) (st_pick rfl rfl) (rc (pl P6_8 5) (st_assign rfl) rn))) ?_; clear hE a; intro a hE
        refine p_nil (x_norm ?_)
        refine c_cond (t := false) hE rfl ?_
        refine c_reg R6_10_l ?_
        refine qn hE (rc (pl P6_10 0) (st_fieldAddr Tryd.underlying27 rfl tS4 rfl rfl) (rc (pl P6_10 1) (st_load1 tA4 rfl ((blk_cell B_g1 2).trans rfl)) (rc (pl P6_10 2) (st_move rfl) rn))) ?_; clear hE a; intro a hE
        rcases Bool.eq_false_or_eq_true rt with hb27 | hb27
        ·
         rw [hb27] at hE
         refine qn hE (rk (pl P6_10 3) (wn_some g6_10_2 rfl rfl) (rk (pl P6_10 4) (wn_some g6_10_2 rfl rfl) (rk (pl P6_10 5) (wn_some g6_10_2 rfl rfl) (rc (pl P6_10 6) (st_pick rfl rfl) (rc (pl P6_10 7) (st_assign rfl) rn))))) ?_; clear hE a; intro a hE
         refine p_nil (x_norm ?_)
         refine c_cond (t := true) hE rfl ?_
         refine c_reg R6_11_l ?_
         refine q0 (pl P6_11 0) hE (st_build (xs := [(0, Operand.const (Value.int IntKind.i64 4)), (1, Operand.const (Value.int IntKind.i64 (-1))), (2, Operand.const (Value.bool false))]) (vs := [(0, Value.int .i64 4), (1, Value.int .i64 (-1)), (2, Value.bool false)]) (cs := #[Value.int .i64 4, Value.int .i64 (-1), Value.bool false]) rfl (by kernel_rfl)) ?_; clear hE a; intro a hE
         refine p_cons (s_store (off := 0) (k := 3) (cs' := #[Value.int .i64 4, Value.int .i64 (-1), Value.bool false]) (pl P6_11 1) hE wn_none tS31 rfl rfl rfl rfl B_g4 (Nat.le_of_ble_eq_true rfl) rfl ?_)
         intro w28 B_g4' hk
         replace B_g := kp_blk B_g hk n_g_g4
         replace B_gm := kp_blk B_gm hk n_gm_g4
         replace B_g1 := kp_blk B_g1 hk n_g1_g4
         replace B_g21 := kp_blk B_g21 hk (Ne.symm n_g4_g21)
         replace K_0 := K_0.then_ hk (fun k h => by rw [show k = g4 from h]; exact Or.inr z_0_g4)
         replace B_g4 := B_g4'
         clear hk
         refine q0 (pl P6_11 2) hE (st_assign rfl) ?_; clear hE a; intro a hE
         refine p_nil (x_norm (wp_ret (x_retB (x_ret ?_))))
         refine ret_list (rs := [.cell 8 31, .tmp 9]) (vs := [Value.agg #[Value.int .i64 4, Value.int .i64 (-1), Value.bool false], Value.int .i64 0]) rfl hE (.cellN (us := [Value.int .i64 4, Value.int .i64 (-1), Value.bool false]) tA31 tS31 rfl B_g4 rfl (.tmp rfl .nil)) rfl ?_
         have e0 : (rightV nd pf && nodeB tg && perB fr) = true := by
          simp only [hRV, hb9, hb11, hb25, hb27, decide_eq_false hc12, decide_eq_true hc26, Bool.and_true, Bool.true_and, Bool.and_false, Bool.false_and, Bool.or_true, Bool.true_or, Bool.or_false, Bool.false_or, Bool.not_true, Bool.not_false, Bool.and_self, Bool.or_self]
         have hn9 : perB fr = true := by
          have := e0
          simp only [Bool.and_eq_true] at this
          exact this.2
         have hv9 : rightV nd pf = true := by
          have := e0
          simp only [Bool.and_eq_true] at this
          exact this.1.1
         have hb1 := per_b hn9
         have hb2 := right_b hv9
         have e1 : ¬ (dn && !decide (fr = -1)) = true := by
          rw [hb25, decide_eq_true (by omega)]; simp
         have e2 : (rt || decide (pf = -1)) = true := by rw [hb27]; rfl
         exact ⟨by unfold nextF; rw [if_pos e0, if_neg hc12, if_neg (by omega), if_neg e1, if_pos e2]; rfl, K_0⟩
        ·
         rw [hb27] at hE
         refine qn hE (rg (pl P6_10 3) (wn_some g6_10_2 rfl rfl) (st_fieldAddr Tryd.underlying27 rfl tS3 rfl rfl) (rg (pl P6_10 4) (wn_some g6_10_2 rfl rfl) (st_load1 tA3 rfl ((blk_cell B_g1 1).trans rfl)) rn)) ?_; clear hE a; intro a hE
         rcases Decidable.em (pf = -1) with hc29 | hc29
         ·
          refine qn hE (rg (v := Value.bool true) (pl P6_10 5) (wn_some g6_10_2 rfl rfl) (st_eql rfl rfl (decide_eq_true hc29)) (rc (pl P6_10 6) (st_pick rfl rfl) (rc (pl P6_10 7) (st_assign rfl) rn))) ?_; clear hE a; intro a hE
          refine p_nil (x_norm ?_)
          refine c_cond (t := true) hE rfl ?_
          refine c_reg R6_11_l ?_
          refine q0 (pl P6_11 0) hE (st_build (xs := [(0, Operand.const (Value.int IntKind.i64 4)), (1, Operand.const (Value.int IntKind.i64 (-1))), (2, Operand.const (Value.bool false))]) (vs := [(0, Value.int .i64 4), (1, Value.int .i64 (-1)), (2, Value.bool false)]) (cs := #[Value.int .i64 4, Value.int .i64 (-1), Value.bool false]) rfl (by kernel_rfl)) ?_; clear hE a; intro a hE
          refine p_cons (s_store (off := 0) (k := 3) (cs' := #[Value.int .i64 4, Value.int .i64 (-1), Value.bool false]) (pl P6_11 1) hE wn_none tS31 rfl rfl rfl rfl B_g4 (Nat.le_of_ble_eq_true rfl) rfl ?_)
          intro w30 B_g4' hk
          replace B_g := kp_blk B_g hk n_g_g4
          replace B_gm := kp_blk B_gm hk n_gm_g4
          replace B_g1 := kp_blk B_g1 hk n_g1_g4
          replace B_g21 := kp_blk B_g21 hk (Ne.symm n_g4_g21)
          replace K_0 := K_0.then_ hk (fun k h => by rw [show k = g4 from h]; exact Or.inr z_0_g4)
          replace B_g4 := B_g4'
          clear hk
          refine q0 (pl P6_11 2) hE (st_assign rfl) ?_; clear hE a; intro a hE
          refine p_nil (x_norm (wp_ret (x_retB (x_ret ?_))))
          refine ret_list (rs := [.cell 8 31, .tmp 9]) (vs := [Value.agg #[Value.int .i64 4, Value.int .i64 (-1), Value.bool false], Value.int .i64 0]) rfl hE (.cellN (us := [Value.int .i64 4, Value.int .i64 (-1), Value.bool false]) tA31 tS31 rfl B_g4 rfl (.tmp rfl .nil)) rfl ?_
          have e0 : (rightV nd pf && nodeB tg && perB fr) = true := by
           simp only [hRV, hb9, hb11, hb25, hb27, decide_eq_false hc12, decide_eq_true hc26, decide_eq_true hc29, Bool.and_true, Bool.true_and, Bool.and_false, Bool.false_and, Bool.or_true, Bool.true_or, Bool.or_false, Bool.false_or, Bool.not_true, Bool.not_false, Bool.and_self, Bool.or_self]
          have hn9 : perB fr = true := by
           have := e0
           simp only [Bool.and_eq_true] at this
           exact this.2
          have hv9 : rightV nd pf = true := by
           have := e0
           simp only [Bool.and_eq_true] at this
           exact this.1.1
          have hb1 := per_b hn9
          have hb2 := right_b hv9
          have e1 : ¬ (dn && !decide (fr = -1)) = true := by
           rw [hb25, decide_eq_true (by omega)]; simp
          have e2 : (rt || decide (pf = -1)) = true := by rw [hb27, decide_eq_true (by omega)]; rfl
          exact ⟨by unfold nextF; rw [if_pos e0, if_neg hc12, if_neg (by omega), if_neg e1, if_pos e2]; rfl, K_0⟩
         ·
          refine qn hE (rg (v := Value.bool false) (pl P6_10 5) (wn_some g6_10_2 rfl rfl) (st_eql rfl rfl (decide_eq_false hc29)) (rc (pl P6_10 6) (st_pick rfl rfl) (rc (pl P6_10 7) (st_assign rfl) rn))) ?_; clear hE a; intro a hE
          refine p_nil (x_norm ?_)
          refine c_cond (t := false) hE rfl ?_
          refine wp_skip (x_normB (x_norm (c_reg R6_12_l ?_)))
          refine qn hE (rc (pl P6_12 0) (st_fieldAddr Tryd.underlying27 rfl tS3 rfl rfl) (rc (pl P6_12 1) (st_load1 tA3 rfl ((blk_cell B_g1 1).trans rfl)) (rc (pl P6_12 2) (st_build (xs := [(0, Operand.const (Value.int IntKind.i64 2)), (1, Operand.tmp 61), (2, Operand.const (Value.bool false))]) (vs := [(0, Value.int .i64 2), (1, Value.int .i64 pf), (2, Value.bool false)]) (cs := #[Value.int .i64 2, Value.int .i64 pf, Value.bool false]) rfl (by kernel_rfl)) rn))) ?_; clear hE a; intro a hE
          refine p_cons (s_store (off := 0) (k := 3) (cs' := #[Value.int .i64 2, Value.int .i64 pf, Value.bool false]) (pl P6_12 3) hE wn_none tS31 rfl rfl rfl rfl B_g4 (Nat.le_of_ble_eq_true rfl) rfl ?_)
          intro w31 B_g4' hk
          replace B_g := kp_blk B_g hk n_g_g4
          replace B_gm := kp_blk B_gm hk n_gm_g4
          replace B_g1 := kp_blk B_g1 hk n_g1_g4
          replace B_g21 := kp_blk B_g21 hk (Ne.symm n_g4_g21)
          replace K_0 := K_0.then_ hk (fun k h => by rw [show k = g4 from h]; exact Or.inr z_0_g4)
          replace B_g4 := B_g4'
          clear hk
          refine q0 (pl P6_12 4) hE (st_assign rfl) ?_; clear hE a; intro a hE
          refine p_nil (x_norm (wp_ret ?_))
          refine ret_list (rs := [.cell 8 31, .tmp 9]) (vs := [Value.agg #[Value.int .i64 2, Value.int .i64 pf, Value.bool false], Value.int .i64 0]) rfl hE (.cellN (us := [Value.int .i64 2, Value.int .i64 pf, Value.bool false]) tA31 tS31 rfl B_g4 rfl (.tmp rfl .nil)) rfl ?_
          have e0 : (rightV nd pf && nodeB tg && perB fr) = true := by
           simp only [hRV, hb9, hb11, hb25, hb27, decide_eq_false hc12, decide_eq_true hc26, decide_eq_false hc29, Bool.and_true, Bool.true_and, Bool.and_false, Bool.false_and, Bool.or_true, Bool.true_or, Bool.or_false, Bool.false_or, Bool.not_true, Bool.not_false, Bool.and_self, Bool.or_self]
          have hn9 : perB fr = true := by
           have := e0
           simp only [Bool.and_eq_true] at this
           exact this.2
          have hv9 : rightV nd pf = true := by
           have := e0
           simp only [Bool.and_eq_true] at this
           exact this.1.1
          have hb1 := per_b hn9
          have hb2 := right_b hv9
          have e1 : ¬ (dn && !decide (fr = -1)) = true := by
           rw [hb25, decide_eq_true (by omega)]; simp
          have e2 : ¬ (rt || decide (pf = -1)) = true := by rw [hb27, decide_eq_false (by omega)]; simp
          exact ⟨by unfold nextF; rw [if_pos e0, if_neg hc12, if_neg (by omega), if_neg e1, if_neg e2]; rfl, K_0⟩
       ·
        refine qn hE (rg (v := Value.bool true) (pl P6_8 3) (wn_some g6_8_1 rfl rfl) (st_neq rfl rfl (by rw [decide_eq_false hc26]; rfl)) (rc (pl P6_8 4) (st_pick rfl rfl) (rc (pl P6_8 5) (st_assign rfl) rn))) ?_; clear hE a; intro a hE
        refine p_nil (x_norm ?_)
        refine c_cond (t := true) hE rfl ?_
        refine c_reg R6_9_l ?_
        refine qn hE (rc (pl P6_9 0) (st_move rfl) (rc (pl P6_9 1) (st_build (xs := [(0, Operand.const (Value.int IntKind.i64 3)), (1, Operand.tmp 49), (2, Operand.const (Value.bool true))]) (vs := [(0, Value.int .i64 3), (1, Value.int .i64 fr), (2, Value.bool true)]) (cs := #[Value.int .i64 3, Value.int .i64 fr, Value.bool true]) rfl (by kernel_rfl)) rn)) ?_; clear hE a; intro a hE
        refine p_cons (s_store (off := 0) (k := 3) (cs' := #[Value.int .i64 3, Value.int .i64 fr, Value.bool true]) (pl P6_9 2) hE wn_none tS31 rfl rfl rfl rfl B_g4 (Nat.le_of_ble_eq_true rfl) rfl ?_)
        intro w32 B_g4' hk
        replace B_g := kp_blk B_g hk n_g_g4
        replace B_gm := kp_blk B_gm hk n_gm_g4
        replace B_g1 := kp_blk B_g1 hk n_g1_g4
        replace B_g21 := kp_blk B_g21 hk (Ne.symm n_g4_g21)
        replace K_0 := K_0.then_ hk (fun k h => by rw [show k = g4 from h]; exact Or.inr z_0_g4)
        replace B_g4 := B_g4'
        clear hk
        refine q0 (pl P6_9 3) hE (st_assign rfl) ?_; clear hE a; intro a hE
        refine p_nil (x_norm (wp_ret (x_retB (x_ret ?_))))
        refine ret_list (rs := [.cell 8 31, .tmp 9]) (vs := [Value.agg #[Value.int .i64 3, Value.int .i64 fr, Value.bool true], Value.int .i64 0]) rfl hE (.cellN (us := [Value.int .i64 3, Value.int .i64 fr, Value.bool true]) tA31 tS31 rfl B_g4 rfl (.tmp rfl .nil)) rfl ?_
        have e0 : (rightV nd pf && nodeB tg && perB fr) = true := by
         simp only [hRV, hb9, hb11, hb25, decide_eq_false hc12, decide_eq_false hc26, Bool.and_true, Bool.true_and, Bool.and_false, Bool.false_and, Bool.or_true, Bool.true_or, Bool.or_false, Bool.false_or, Bool.not_true, Bool.not_false, Bool.and_self, Bool.or_self]
        have hn9 : perB fr = true := by
         have := e0
         simp only [Bool.and_eq_true] at this
         exact this.2
        have hv9 : rightV nd pf = true := by
         have := e0
         simp only [Bool.and_eq_true] at this
         exact this.1.1
        have hb1 := per_b hn9
        have hb2 := right_b hv9
        have e1 : (dn && !decide (fr = -1)) = true := by rw [hb25, decide_eq_false (by omega)]; rfl
        exact ⟨by unfold nextF; rw [if_pos e0, if_neg hc12, if_neg (by omega), if_pos e1]; rfl, K_0⟩
      ·
       rw [hb25] at hE
       refine qn hE (rk (pl P6_8 2) (wn_some g6_8_1 rfl rfl) (rk (pl P6_8 3) (wn_some g6_8_1 rfl rfl) (rc (pl P6_8 4) (st_pick rfl rfl) (rc (pl P6_8 5) (st_assign rfl) rn)))) ?_; clear hE a; intro a hE
       refine p_nil (x_norm ?_)
       refine c_cond (t := false) hE rfl ?_
       refine c_reg R6_10_l ?_
       refine qn hE (rc (pl P6_10 0) (st_fieldAddr Tryd.underlying27 rfl tS4 rfl rfl) (rc (pl P6_10 1) (st_load1 tA4 rfl ((blk_cell B_g1 2).trans rfl)) (rc (pl P6_10 2) (st_move rfl) rn))) ?_; clear hE a; intro a hE
       rcases Bool.eq_false_or_eq_true rt with hb33 | hb33
       ·
        rw [hb33] at hE
        refine qn hE (rk (pl P6_10 3) (wn_some g6_10_2 rfl rfl) (rk (pl P6_10 4) (wn_some g6_10_2 rfl rfl) (rk (pl P6_10 5) (wn_some g6_10_2 rfl rfl) (rc (pl P6_10 6) (st_pick rfl rfl) (rc (pl P6_10 7) (st_assign rfl) rn))))) ?_; clear hE a; intro a hE
        refine p_nil (x_norm ?_)
        refine c_cond (t := true) hE rfl ?_
        refine c_reg R6_11_l ?_
        refine q0 (pl P6_11 0) hE (st_build (xs := [(0, Operand.const (Value.int IntKind.i64 4)), (1, Operand.const (Value.int IntKind.i64 (-1))), (2, Operand.const (Value.bool false))]) (vs := [(0, Value.int .i64 4), (1, Value.int .i64 (-1)), (2, Value.bool false)]) (cs := #[Value.int .i64 4, Value.int .i64 (-1), Value.bool false]) rfl (by kernel_rfl)) ?_; clear hE a; intro a hE
        refine p_cons (s_store (off := 0) (k := 3) (cs' := #[Value.int .i64 4, Value.int .i64 (-1), Value.bool false]) (pl P6_11 1) hE wn_none tS31 rfl rfl rfl rfl B_g4 (Nat.le_of_ble_eq_true rfl) rfl ?_)
        intro w34 B_g4' hk
        replace B_g := kp_blk B_g hk n_g_g4
        replace B_gm := kp_blk B_gm hk n_gm_g4
        replace B_g1 := kp_blk B_g1 hk n_g1_g4
        replace B_g21 := kp_blk B_g21 hk (Ne.symm n_g4_g21)
        replace K_0 := K_0.then_ hk (fun k h => by rw [show k = g4 from h]; exact Or.inr z_0_g4)
        replace B_g4 := B_g4'
        clear hk
        refine q0 (pl P6_11 2) hE (st_assign rfl) ?_; clear hE a; intro a hE
        refine p_nil (x_norm (wp_ret (x_retB (x_ret ?_))))
        refine ret_list (rs := [.cell 8 31, .tmp 9]) (vs := [Value.agg #[Value.int .i64 4, Value.int .i64 (-1), Value.bool false], Value.int .i64 0]) rfl hE (.cellN (us := [Value.int .i64 4, Value.int .i64 (-1), Value.bool false]) tA31 tS31 rfl B_g4 rfl (.tmp rfl .nil)) rfl ?_
        have e0 : (rightV nd pf && nodeB tg && perB fr) = true := by
         simp only [hRV, hb9, hb11, hb25, hb33, decide_eq_false hc12, Bool.and_true, Bool.true_and, Bool.and_false, Bool.false_and, Bool.or_true, Bool.true_or, Bool.or_false, Bool.false_or, Bool.not_true, Bool.not_false, Bool.and_self, Bool.or_self]
        have hn9 : perB fr = true := by
         have := e0
         simp only [Bool.and_eq_true] at this
         exact this.2
        have hv9 : rightV nd pf = true := by
         have := e0
         simp only [Bool.and_eq_true] at this
         exact this.1.1
        have hb1 := per_b hn9
        have hb2 := right_b hv9
        have e1 : ¬ (dn && !decide (fr = -1)) = true := by
         rw [hb25]; simp
        have e2 : (rt || decide (pf = -1)) = true := by rw [hb33]; rfl
        exact ⟨by unfold nextF; rw [if_pos e0, if_neg hc12, if_neg (by omega), if_neg e1, if_pos e2]; rfl, K_0⟩
       ·
        rw [hb33] at hE
        refine qn hE (rg (pl P6_10 3) (wn_some g6_10_2 rfl rfl) (st_fieldAddr Tryd.underlying27 rfl tS3 rfl rfl) (rg (pl P6_10 4) (wn_some g6_10_2 rfl rfl) (st_load1 tA3 rfl ((blk_cell B_g1 1).trans rfl)) rn)) ?_; clear hE a; intro a hE
        rcases Decidable.em (pf = -1) with hc35 | hc35
        ·
         refine qn hE (rg (v := Value.bool true) (pl P6_10 5) (wn_some g6_10_2 rfl rfl) (st_eql rfl rfl (decide_eq_true hc35)) (rc (pl P6_10 6) (st_pick rfl rfl) (rc (pl P6_10 7) (st_assign rfl) rn))) ?_; clear hE a; intro a hE
         refine p_nil (x_norm ?_)
         refine c_cond (t := true) hE rfl ?_
         refine c_reg R6_11_l ?_
         refine q0 (pl P6_11 0) hE (st_build (xs := [(0, Operand.const (Value.int IntKind.i64 4)), (1, Operand.const (Value.int IntKind.i64 (-1))), (2, Operand.const (Value.bool false))]) (vs := [(0, Value.int .i64 4), (1, Value.int .i64 (-1)), (2, Value.bool false)]) (cs := #[Value.int .i64 4, Value.int .i64 (-1), Value.bool false]) rfl (by kernel_rfl)) ?_; clear hE a; intro a hE
         refine p_cons (s_store (off := 0) (k := 3) (cs' := #[Value.int .i64 4, Value.int .i64 (-1), Value.bool false]) (pl P6_11 1) hE wn_none tS31 rfl rfl rfl rfl B_g4 (Nat.le_of_ble_eq_true rfl) rfl ?_)
         intro w36 B_g4' hk
         replace B_g := kp_blk B_g hk n_g_g4
         replace B_gm := kp_blk B_gm hk n_gm_g4
         replace B_g1 := kp_blk B_g1 hk n_g1_g4
         replace B_g21 := kp_blk B_g21 hk (Ne.symm n_g4_g21)
         replace K_0 := K_0.then_ hk (fun k h => by rw [show k = g4 from h]; exact Or.inr z_0_g4)
         replace B_g4 := B_g4'
         clear hk
         refine q0 (pl P6_11 2) hE (st_assign rfl) ?_; clear hE a; intro a hE
         refine p_nil (x_norm (wp_ret (x_retB (x_ret ?_))))
         refine ret_list (rs := [.cell 8 31, .tmp 9]) (vs := [Value.agg #[Value.int .i64 4, Value.int .i64 (-1), Value.bool false], Value.int .i64 0]) rfl hE (.cellN (us := [Value.int .i64 4, Value.int .i64 (-1), Value.bool false]) tA31 tS31 rfl B_g4 rfl (.tmp rfl .nil)) rfl ?_
         have e0 : (rightV nd pf && nodeB tg && perB fr) = true := by
          simp only [hRV, hb9, hb11, hb25, hb33, decide_eq_false hc12, decide_eq_true hc35, Bool.and_true, Bool.true_and, Bool.and_false, Bool.false_and, Bool.or_true, Bool.true_or, Bool.or_false, Bool.false_or, Bool.not_true, Bool.not_false, Bool.and_self, Bool.or_self]
         have hn9 : perB fr = true := by
          have := e0
          simp only [Bool.and_eq_true] at this
          exact this.2
         have hv9 : rightV nd pf = true := by
          have := e0
          simp only [Bool.and_eq_true] at this
          exact this.1.1
         have hb1 := per_b hn9
         have hb2 := right_b hv9
         have e1 : ¬ (dn && !decide (fr = -1)) = true := by
          rw [hb25]; simp
         have e2 : (rt || decide (pf = -1)) = true := by rw [hb33, decide_eq_true (by omega)]; rfl
         exact ⟨by unfold nextF; rw [if_pos e0, if_neg hc12, if_neg (by omega), if_neg e1, if_pos e2]; rfl, K_0⟩
        ·
         refine qn hE (rg (v := Value.bool false) (pl P6_10 5) (wn_some g6_10_2 rfl rfl) (st_eql rfl rfl (decide_eq_false hc35)) (rc (pl P6_10 6) (st_pick rfl rfl) (rc (pl P6_10 7) (st_assign rfl) rn))) ?_; clear hE a; intro a hE
         refine p_nil (x_norm ?_)
         refine c_cond (t := false) hE rfl ?_
         refine wp_skip (x_normB (x_norm (c_reg R6_12_l ?_)))
         refine qn hE (rc (pl P6_12 0) (st_fieldAddr Tryd.underlying27 rfl tS3 rfl rfl) (rc (pl P6_12 1) (st_load1 tA3 rfl ((blk_cell B_g1 1).trans rfl)) (rc (pl P6_12 2) (st_build (xs := [(0, Operand.const (Value.int IntKind.i64 2)), (1, Operand.tmp 61), (2, Operand.const (Value.bool false))]) (vs := [(0, Value.int .i64 2), (1, Value.int .i64 pf), (2, Value.bool false)]) (cs := #[Value.int .i64 2, Value.int .i64 pf, Value.bool false]) rfl (by kernel_rfl)) rn))) ?_; clear hE a; intro a hE
         refine p_cons (s_store (off := 0) (k := 3) (cs' := #[Value.int .i64 2, Value.int .i64 pf, Value.bool false]) (pl P6_12 3) hE wn_none tS31 rfl rfl rfl rfl B_g4 (Nat.le_of_ble_eq_true rfl) rfl ?_)
         intro w37 B_g4' hk
         replace B_g := kp_blk B_g hk n_g_g4
         replace B_gm := kp_blk B_gm hk n_gm_g4
         replace B_g1 := kp_blk B_g1 hk n_g1_g4
         replace B_g21 := kp_blk B_g21 hk (Ne.symm n_g4_g21)
         replace K_0 := K_0.then_ hk (fun k h => by rw [show k = g4 from h]; exact Or.inr z_0_g4)
         replace B_g4 := B_g4'
         clear hk
         refine q0 (pl P6_12 4) hE (st_assign rfl) ?_; clear hE a; intro a hE
         refine p_nil (x_norm (wp_ret ?_))
         refine ret_list (rs := [.cell 8 31, .tmp 9]) (vs := [Value.agg #[Value.int .i64 2, Value.int .i64 pf, Value.bool false], Value.int .i64 0]) rfl hE (.cellN (us := [Value.int .i64 2, Value.int .i64 pf, Value.bool false]) tA31 tS31 rfl B_g4 rfl (.tmp rfl .nil)) rfl ?_
         have e0 : (rightV nd pf && nodeB tg && perB fr) = true := by
          simp only [hRV, hb9, hb11, hb25, hb33, decide_eq_false hc12, decide_eq_false hc35, Bool.and_true, Bool.true_and, Bool.and_false, Bool.false_and, Bool.or_true, Bool.true_or, Bool.or_false, Bool.false_or, Bool.not_true, Bool.not_false, Bool.and_self, Bool.or_self]
         have hn9 : perB fr = true := by
          have := e0
          simp only [Bool.and_eq_true] at this
          exact this.2
         have hv9 : rightV nd pf = true := by
          have := e0
          simp only [Bool.and_eq_true] at this
          exact this.1.1
         have hb1 := per_b hn9
         have hb2 := right_b hv9
         have e1 : ¬ (dn && !decide (fr = -1)) = true := by
          rw [hb25]; simp
         have e2 : ¬ (rt || decide (pf = -1)) = true := by rw [hb33, decide_eq_false (by omega)]; simp
         exact ⟨by unfold nextF; rw [if_pos e0, if_neg hc12, if_neg (by omega), if_neg e1, if_neg e2]; rfl, K_0⟩
   ·
    rw [hb11] at hE
    refine c_cond (t := true) hE rfl ?_
    refine c_reg R6_2_l ?_
    refine q0 (pl P6_2 0) hE (st_build (xs := []) (vs := []) (cs := #[Value.int .i64 0, Value.int .i64 0, Value.bool false]) rfl (by kernel_rfl)) ?_; clear hE a; intro a hE
    refine p_cons (s_store (off := 0) (k := 3) (cs' := #[Value.int .i64 0, Value.int .i64 0, Value.bool false]) (pl P6_2 1) hE wn_none tS31 rfl rfl rfl rfl B_g4 (Nat.le_of_ble_eq_true rfl) rfl ?_)
    intro w38 B_g4' hk
    replace B_g := kp_blk B_g hk n_g_g4
    replace B_gm := kp_blk B_gm hk n_gm_g4
    replace B_g1 := kp_blk B_g1 hk n_g1_g4
    replace K_0 := K_0.then_ hk (fun k h => by rw [show k = g4 from h]; exact Or.inr z_0_g4)
    replace B_g4 := B_g4'
    clear hk
    refine q0 (pl P6_2 2) hE (st_assign rfl) ?_; clear hE a; intro a hE
    refine p_nil (x_norm (wp_ret (x_ret ?_)))
    refine ret_list (rs := [.cell 8 31, .tmp 9]) (vs := [Value.agg #[Value.int .i64 0, Value.int .i64 0, Value.bool false], Value.int .i64 1]) rfl hE (.cellN (us := [Value.int .i64 0, Value.int .i64 0, Value.bool false]) tA31 tS31 rfl B_g4 rfl (.tmp rfl .nil)) rfl ?_
    have e0 : (rightV nd pf && nodeB tg && perB fr) = false := by
     simp only [hRV, hb9, hb11, Bool.and_true, Bool.true_and, Bool.and_false, Bool.false_and, Bool.or_true, Bool.true_or, Bool.or_false, Bool.false_or, Bool.not_true, Bool.not_false, Bool.and_self, Bool.or_self]
    exact ⟨by unfold nextF; rw [e0]; rfl, K_0⟩
  ·
   rw [hb9] at hE
   refine qn hE (rk (pl P6_1 9) (wn_some g6_1_8 rfl rfl) (rk (pl P6_1 10) (wn_some g6_1_8 rfl rfl) (rk (pl P6_1 11) (wn_some g6_1_8 rfl rfl) (rc (pl P6_1 12) (st_pick rfl rfl) rn)))) ?_; clear hE a; intro a hE
   refine p_nil (x_norm ?_)
   refine c_cond (t := true) hE rfl ?_
   refine c_reg R6_2_l ?_
   refine q0 (pl P6_2 0) hE (st_build (xs := []) (vs := []) (cs := #[Value.int .i64 0, Value.int .i64 0, Value.bool false]) rfl (by kernel_rfl)) ?_; clear hE a; intro a hE
   refine p_cons (s_store (off := 0) (k := 3) (cs' := #[Value.int .i64 0, Value.int .i64 0, Value.bool false]) (pl P6_2 1) hE wn_none tS31 rfl rfl rfl rfl B_g4 (Nat.le_of_ble_eq_true rfl) rfl ?_)
   intro w39 B_g4' hk
   replace B_g := kp_blk B_g hk n_g_g4
   replace B_gm := kp_blk B_gm hk n_gm_g4
   replace B_g1 := kp_blk B_g1 hk n_g1_g4
   replace K_0 := K_0.then_ hk (fun k h => by rw [show k = g4 from h]; exact Or.inr z_0_g4)
   replace B_g4 := B_g4'
   clear hk
   refine q0 (pl P6_2 2) hE (st_assign rfl) ?_; clear hE a; intro a hE
   refine p_nil (x_norm (wp_ret (x_ret ?_)))
   refine ret_list (rs := [.cell 8 31, .tmp 9]) (vs := [Value.agg #[Value.int .i64 0, Value.int .i64 0, Value.bool false], Value.int .i64 1]) rfl hE (.cellN (us := [Value.int .i64 0, Value.int .i64 0, Value.bool false]) tA31 tS31 rfl B_g4 rfl (.tmp rfl .nil)) rfl ?_
   have e0 : (rightV nd pf && nodeB tg && perB fr) = false := by
    simp only [hRV, hb9, Bool.and_true, Bool.true_and, Bool.and_false, Bool.false_and, Bool.or_true, Bool.true_or, Bool.or_false, Bool.false_or, Bool.not_true, Bool.not_false, Bool.and_self, Bool.or_self]
   exact ⟨by unfold nextF; rw [e0]; rfl, K_0⟩
 ·
  have hRV9 : rightV nd pf = false := by simpa using hRV
  refine c_reg R6_1_l ?_
  refine q0 (pl P6_1 0) hE (st_loadN (off := 0) (k := 4) (vs := [Value.int .i64 nd, Value.int .i64 pf, Value.bool rt, Value.pointer (some ⟨g, 0, none⟩)]) tA27 tS27 rfl B_g1 rfl rfl) ?_; clear hE a; intro a hE
  refine p_cons (s_call (xs := [Operand.tmp 12]) (args := [Value.agg #[Value.int .i64 nd, Value.int .i64 pf, Value.bool rt, Value.pointer (some ⟨g, 0, none⟩)]]) (pl P6_1 1) hE wn_none rfl rfl Tryd.func11 cl11 (pcheck nd pf rt g _) ?_)
  rintro e w40 ⟨rfl, hk⟩
  replace B_g := kp_blk B_g hk (fun h => h)
  replace B_gm := kp_blk B_gm hk (fun h => h)
  replace B_g1 := kp_blk B_g1 hk (fun h => h)
  replace B_g4 := kp_blk B_g4 hk (fun h => h)
  replace K_0 := K_0.then_ hk (fun _ h => h.elim)
  refine ⟨_, rfl, ?_⟩; clear hE a; intro a hE
  refine qn hE (rc (pl P6_1 2) (st_neq (b := true) rfl rfl (by rw [hRV9]; rfl)) (rc (pl P6_1 3) (st_move rfl) (rk (pl P6_1 4) (wn_some g6_1_3 rfl rfl) (rk (pl P6_1 5) (wn_some g6_1_3 rfl rfl) (rk (pl P6_1 6) (wn_some g6_1_3 rfl rfl) (rc (pl P6_1 7) (st_pick rfl rfl) (rc (pl P6_1 8) (st_move rfl) (rk (pl P6_1 9) (wn_some g6_1_8 rfl rfl) (rk (pl P6_1 10) (wn_some g6_1_8 rfl rfl) (rk (pl P6_1 11) (wn_some g6_1_8 rfl rfl) (rc (pl P6_1 12) (st_pick rfl rfl) rn))))))))))) ?_; clear hE a; intro a hE
  refine p_nil (x_norm ?_)
  refine c_cond (t := true) hE rfl ?_
  refine c_reg R6_2_l ?_
  refine q0 (pl P6_2 0) hE (st_build (xs := []) (vs := []) (cs := #[Value.int .i64 0, Value.int .i64 0, Value.bool false]) rfl (by kernel_rfl)) ?_; clear hE a; intro a hE
  refine p_cons (s_store (off := 0) (k := 3) (cs' := #[Value.int .i64 0, Value.int .i64 0, Value.bool false]) (pl P6_2 1) hE wn_none tS31 rfl rfl rfl rfl B_g4 (Nat.le_of_ble_eq_true rfl) rfl ?_)
  intro w41 B_g4' hk
  replace B_g := kp_blk B_g hk n_g_g4
  replace B_gm := kp_blk B_gm hk n_gm_g4
  replace B_g1 := kp_blk B_g1 hk n_g1_g4
  replace K_0 := K_0.then_ hk (fun k h => by rw [show k = g4 from h]; exact Or.inr z_0_g4)
  replace B_g4 := B_g4'
  clear hk
  refine q0 (pl P6_2 2) hE (st_assign rfl) ?_; clear hE a; intro a hE
  refine p_nil (x_norm (wp_ret (x_ret ?_)))
  refine ret_list (rs := [.cell 8 31, .tmp 9]) (vs := [Value.agg #[Value.int .i64 0, Value.int .i64 0, Value.bool false], Value.int .i64 1]) rfl hE (.cellN (us := [Value.int .i64 0, Value.int .i64 0, Value.bool false]) tA31 tS31 rfl B_g4 rfl (.tmp rfl .nil)) rfl ?_
  have e0 : (rightV nd pf && nodeB tg && perB fr) = false := by
   simp only [hRV9, Bool.and_true, Bool.true_and, Bool.and_false, Bool.false_and, Bool.or_true, Bool.true_or, Bool.or_false, Bool.false_or, Bool.not_true, Bool.not_false, Bool.and_self, Bool.or_self]
  exact ⟨by unfold nextF; rw [e0]; rfl, K_0⟩

theorem tS22 : (Tryd.prog.info? 22).map (·.size) = some 1 := by kernel_rfl
theorem tA22 : (Tryd.prog.underlying 22).map aggD = some false := by kernel_rfl
end Go.Proofs.YtnmlckaeheiodaaDoor.Rg
