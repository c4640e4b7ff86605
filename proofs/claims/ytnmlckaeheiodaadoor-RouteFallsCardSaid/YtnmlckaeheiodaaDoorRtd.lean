/- The document's table of routes. -/
import Derived.Test.YtnmlckaeheiodaaDoorRta
set_option maxRecDepth 100000
set_option linter.unusedVariables false
set_option linter.unusedSimpArgs false
namespace Go.Proofs.YtnmlckaeheiodaaDoor.Rd19
open Go.RowKit Go.Proofs.YtnmlckaeheiodaaDoorW.PrintWords Go.Proofs.YtnmlckaeheiodaaDoor.Ds Go.Proofs.YtnmlckaeheiodaaDoor.Lol Go.Proofs.YtnmlckaeheiodaaDoor.Ra
open Go.Proofs.YtnmlckaeheiodaaDoor.Pk (Kp)
open Go.Proofs.YtnmlckaeheiodaaDoor.Mi (st_eqlP x_retS MapI getI putI)
def fl4 (o : R4) : List Value := [.int .i64 o.1, .int .i64 o.2.1, .int .i64 o.2.2.1, .int .i64 o.2.2.2]
def flR (L : List R4) : List Value := L.flatMap fl4
theorem flR_ones (L : List R4) : ∀ u ∈ flR L, u.oneCell' = true := fun u hu => by
 obtain ⟨o, _, h⟩ := List.mem_flatMap.1 hu
 simp only [fl4, List.mem_cons, List.not_mem_nil, or_false] at h
 rcases h with rfl | rfl | rfl | rfl <;> rfl
def getR : List R4 → Int → Option R4
 | [], _ => none
 | o :: L, n => if o.1 = n then some o else getR L n
def fiR : List R4 → Int → Int
 | [], _ => -1
 | o :: L, n => if o.1 = n then 0 else if fiR L n = -1 then -1 else fiR L n + 1
def repR : List R4 → R4 → List R4
 | [], _ => []
 | o :: L, r => if o.1 = r.1 then r :: L else o :: repR L r
def insR : List R4 → R4 → List R4
 | [], r => [r]
 | o :: L, r => if o.1 < r.1 then o :: insR L r else r :: o :: L
def learnR (L : List R4) (r : R4) : List R4 :=
 if okR r = true then (match getR L r.1 with | none => insR L r | some o => if freshB r o = true then repR L r else L) else L
theorem at_of : ∀ {L : List R4} {n : Int} {i : Nat} {o : R4}, L[i]? = some o → o.1 = n → (∀ j p, j < i → L[j]? = some p → p.1 ≠ n) → fiR L n = (i : Int) ∧ getR L n = some o ∧ ∀ r : R4, r.1 = n → repR L r = L.take i ++ r :: L.drop (i + 1)
 | [], _, _, _, h, _, _ => by cases h
 | a :: L, n, 0, o, h, he, _ => by
  injection h with h
  subst h
  refine ⟨by unfold fiR; rw [if_pos he]; rfl, by unfold getR; rw [if_pos he], fun r hr => by unfold repR; rw [if_pos (by omega)]; rfl⟩
 | a :: L, n, i + 1, o, h, he, hn => by
  have ih := at_of (L := L) (i := i) h he (fun j p hj hp => hn (j + 1) p (by omega) hp)
  have hne := hn 0 a (by omega) rfl
  refine ⟨?_, by unfold getR; rw [if_neg hne]; exact ih.2.1, fun r hr => by unfold repR; rw [if_neg (by omega), ih.2.2 r hr]; rfl⟩
  unfold fiR
  rw [if_neg hne, ih.1, if_neg (by omega)]
  omega
theorem none_of {L : List R4} {n : Int} (h : ∀ j p, j < L.length → L[j]? = some p → p.1 ≠ n) : fiR L n = -1 ∧ getR L n = none := by
 have h' : ∀ p ∈ L, p.1 ≠ n := fun p hp => by
  obtain ⟨j, hj, e⟩ := List.getElem_of_mem hp
  exact h j p hj (by rw [List.getElem?_eq_getElem hj, e])
 clear h
 induction L with
 | nil => exact ⟨rfl, rfl⟩
 | cons a L ih =>
  have hne := h' a (List.mem_cons_self ..)
  have ih := ih (fun p hp => h' p (List.mem_cons_of_mem _ hp))
  unfold fiR getR
  rw [if_neg hne, if_neg hne, ih.1, if_pos rfl]
  exact ⟨rfl, ih.2⟩
theorem getR_at : ∀ {L : List R4} {n : Int} {o : R4}, getR L n = some o → ∃ i : Nat, L[i]? = some o ∧ o.1 = n ∧ ∀ (j : Nat) (p : R4), j < i → L[j]? = some p → p.1 ≠ n
 | [], _, _, h => by cases h
 | a :: L, n, o, h => by
  unfold getR at h
  by_cases ha : a.1 = n
  ·
   rw [if_pos ha] at h
   injection h with h
   exact ⟨0, by simp [h], by rw [← h]; exact ha, fun j p hj => absurd hj (Nat.not_lt_zero _)⟩
  ·
   rw [if_neg ha] at h
   obtain ⟨i, h1, h2, h3⟩ := getR_at h
   refine ⟨i + 1, h1, h2, fun j p hj hp => ?_⟩
   cases j with
   | zero => injection hp with hp; rw [← hp]; exact ha
   | succ j => exact h3 j p (by omega) hp
theorem getR_none {L : List R4} {n : Int} (h : getR L n = none) : fiR L n = -1 ∧ ∀ p ∈ L, p.1 ≠ n := by
 induction L with
 | nil => exact ⟨rfl, fun p hp => absurd hp List.not_mem_nil⟩
 | cons a L ih =>
  unfold getR at h
  by_cases ha : a.1 = n
  · rw [if_pos ha] at h; cases h
  ·
   rw [if_neg ha] at h
   have ih := ih h
   refine ⟨by unfold fiR; rw [if_neg ha, ih.1, if_pos rfl], fun p hp => ?_⟩
   rcases List.mem_cons.1 hp with rfl | hp
   · exact ha
   · exact ih.2 p hp
theorem ins_at : ∀ {L : List R4} {o : R4} {i : Nat}, i ≤ L.length → (∀ j p, j < i → L[j]? = some p → p.1 < o.1) → (∀ p, L[i]? = some p → ¬ p.1 < o.1) → insR L o = L.take i ++ o :: L.drop i
 | [], o, i, hi, _, _ => by
  have : i = 0 := by simpa using hi
  subst this
  rfl
 | a :: L, o, 0, _, _, h2 => by
  unfold insR
  rw [if_neg (h2 a rfl)]
  rfl
 | a :: L, o, i + 1, hi, h1, h2 => by
  unfold insR
  rw [if_pos (h1 0 a (by omega) rfl), ins_at (L := L) (i := i) (by simpa using hi) (fun j p hj hp => h1 (j + 1) p (by omega) hp) (fun p hp => h2 p hp)]
  rfl
theorem cut4 (L : List R4) (i k : Nat) (o : R4) : ((([] ++ (flR L).take (i * 4)) ++ [Value.int .i64 o.1, Value.int .i64 o.2.1, Value.int .i64 o.2.2.1, Value.int .i64 o.2.2.2]) ++ (flR L).drop (k * 4)) = flR (L.take i ++ o :: L.drop k) := by
 unfold flR
 rw [List.nil_append, Rv.flat_take (fl := fl4) (fun _ => rfl), Rv.flat_drop (fl := fl4) (fun _ => rfl), List.flatMap_append, List.flatMap_cons, List.append_assoc]
 rfl
theorem drop_cap {A AD : Option Addr} {c lo k : Nat} (hc : A = none → c = 0) (h : (if c = lo then A else A.map (·.add k)) = AD) : AD = none → c - lo = 0 := fun e => by
 split at h
 · omega
 ·
  cases A with
  | none => have := hc rfl; omega
  | some a => rw [← h] at e; cases e
theorem own_cap0 {w : World} {base e s n c : Nat} {A : Option Addr} {xs : List Value} (h : w.ownsRow base e s (.slice A n c) n xs) : A = none → c = 0 := fun e1 => by
 subst e1
 rcases h.2 with ⟨h2, _⟩ | ⟨g, cap, cur, h2, _⟩
 · injection h2
 · injection h2 with h3; cases h3
theorem R42_0_l : List.range (regOf Tryd.f42 0).size = [0] := by kernel_rfl
theorem R42_1_l : List.range (regOf Tryd.f42 1).size = [0, 1, 2, 3, 4, 5, 6] := by kernel_rfl
theorem body42 : Tryd.f42.body = some (.seq (.region 0 (regOf Tryd.f42 0) false) (.seq (.region 1 (regOf Tryd.f42 1) false) (.ret))) := by kernel_rfl
theorem p42_0_0 : pj (regOf Tryd.f42 0) 0 = some (some 2, .assign (.const (.bool false)), 4, none) := by kernel_rfl
theorem P42_1 : (List.range (regOf Tryd.f42 1).size).map (pj (regOf Tryd.f42 1)) = [some (some 3, .move (.tmp 0), 3, none), some (some 4, .binOp .geq 3 (.tmp 3) (.const (.int .i64 0)) 3, 4, none), some (some 5, .move (.tmp 4), 4, none), some (some 6, .move (.tmp 0), 3, some (2, true)), some (some 7, .binOp .leq 3 (.tmp 6) (.const (.int .i64 63)) 3, 4, some (2, true)), some (some 8, .pick (.tmp 5) (.tmp 7) (.const (.bool false)), 4, none), some (some 2, .assign (.tmp 8), 4, none)] := by kernel_rfl
theorem g42_1_2 : dstOf (regOf Tryd.f42 1) 2 = some 5 := by kernel_rfl
set_option maxHeartbeats 4000000 in
theorem rnode (n : Int) (w : World) : Calls Tryd.prog 42 #[.int .i64 n] w fun e w' => e = .returned (.bool (nodeB n)) ∧ Kp w w' (fun _ => False) := by
 have K_0 := Kp.refl w (fun _ => False)
 refine enter (args := [Value.int .i64 n]) (n := 9) Tryd.func42 body42 rfl rfl rfl ?_
 intro a hE
 refine c_reg R42_0_l ?_
 refine q0 p42_0_0 hE (st_assign rfl) ?_; clear hE a; intro a hE
 refine p_nil (x_norm (c_reg R42_1_l ?_))
 refine q0 (pl P42_1 0) hE (st_move rfl) ?_; clear hE a; intro a hE
 rcases Decidable.em (0 ≤ n) with hc1 | hc1
 ·
  refine qn hE (rg (v := Value.bool true) (pl P42_1 1) wn_none (st_geq rfl rfl (decide_eq_true hc1)) (rc (pl P42_1 2) (st_move rfl) (rg (pl P42_1 3) (wn_some g42_1_2 rfl rfl) (st_move rfl) rn))) ?_; clear hE a; intro a hE
  rcases Decidable.em (n ≤ 63) with hc2 | hc2
  ·
   refine qn hE (rg (v := Value.bool true) (pl P42_1 4) (wn_some g42_1_2 rfl rfl) (st_leq rfl rfl (decide_eq_true hc2)) (rc (pl P42_1 5) (st_pick rfl rfl) (rc (pl P42_1 6) (st_assign rfl) rn))) ?_; clear hE a; intro a hE
   refine p_nil (x_norm (wp_ret ?_))
   refine ret_one (v := Value.bool true) rfl hE (.tmp rfl .nil) ?_
   exact ⟨by rw [node_t (by omega) (by omega)], K_0⟩
  ·
   refine qn hE (rg (v := Value.bool false) (pl P42_1 4) (wn_some g42_1_2 rfl rfl) (st_leq rfl rfl (decide_eq_false hc2)) (rc (pl P42_1 5) (st_pick rfl rfl) (rc (pl P42_1 6) (st_assign rfl) rn))) ?_; clear hE a; intro a hE
   refine p_nil (x_norm (wp_ret ?_))
   refine ret_one (v := Value.bool false) rfl hE (.tmp rfl .nil) ?_
   exact ⟨by rw [node_f (by omega)], K_0⟩
 ·
  refine qn hE (rg (v := Value.bool false) (pl P42_1 1) wn_none (st_geq rfl rfl (decide_eq_false hc1)) (rc (pl P42_1 2) (st_move rfl) (rk (pl P42_1 3) (wn_some g42_1_2 rfl rfl) (rk (pl P42_1 4) (wn_some g42_1_2 rfl rfl) (rc (pl P42_1 5) (st_pick rfl rfl) (rc (pl P42_1 6) (st_assign rfl) rn)))))) ?_; clear hE a; intro a hE
  refine p_nil (x_norm (wp_ret ?_))
  refine ret_one (v := Value.bool false) rfl hE (.tmp rfl .nil) ?_
  exact ⟨by rw [node_f (by omega)], K_0⟩
theorem R43_0_l : List.range (regOf Tryd.f43 0).size = [0] := by kernel_rfl
theorem R43_1_l : List.range (regOf Tryd.f43 1).size = [0, 1, 2, 3, 4, 5, 6] := by kernel_rfl
theorem body43 : Tryd.f43.body = some (.seq (.region 0 (regOf Tryd.f43 0) false) (.seq (.region 1 (regOf Tryd.f43 1) false) (.ret))) := by kernel_rfl
theorem p43_0_0 : pj (regOf Tryd.f43 0) 0 = some (some 2, .assign (.const (.bool false)), 4, none) := by kernel_rfl
theorem P43_1 : (List.range (regOf Tryd.f43 1).size).map (pj (regOf Tryd.f43 1)) = [some (some 3, .move (.tmp 0), 3, none), some (some 4, .binOp .geq 3 (.tmp 3) (.const (.int .i64 0)) 3, 4, none), some (some 5, .move (.tmp 4), 4, none), some (some 6, .move (.tmp 0), 3, some (2, true)), some (some 7, .binOp .leq 3 (.tmp 6) (.const (.int .i64 255)) 3, 4, some (2, true)), some (some 8, .pick (.tmp 5) (.tmp 7) (.const (.bool false)), 4, none), some (some 2, .assign (.tmp 8), 4, none)] := by kernel_rfl
theorem g43_1_2 : dstOf (regOf Tryd.f43 1) 2 = some 5 := by kernel_rfl
set_option maxHeartbeats 4000000 in
theorem rvalid (n : Int) (w : World) : Calls Tryd.prog 43 #[.int .i64 n] w fun e w' => e = .returned (.bool (seqB n)) ∧ Kp w w' (fun _ => False) := by
 have K_0 := Kp.refl w (fun _ => False)
 refine enter (args := [Value.int .i64 n]) (n := 9) Tryd.func43 body43 rfl rfl rfl ?_
 intro a hE
 refine c_reg R43_0_l ?_
 refine q0 p43_0_0 hE (st_assign rfl) ?_; clear hE a; intro a hE
 refine p_nil (x_norm (c_reg R43_1_l ?_))
 refine q0 (pl P43_1 0) hE (st_move rfl) ?_; clear hE a; intro a hE
 rcases Decidable.em (0 ≤ n) with hc1 | hc1
 ·
  refine qn hE (rg (v := Value.bool true) (pl P43_1 1) wn_none (st_geq rfl rfl (decide_eq_true hc1)) (rc (pl P43_1 2) (st_move rfl) (rg (pl P43_1 3) (wn_some g43_1_2 rfl rfl) (st_move rfl) rn))) ?_; clear hE a; intro a hE
  rcases Decidable.em (n ≤ 255) with hc2 | hc2
  ·
   refine qn hE (rg (v := Value.bool true) (pl P43_1 4) (wn_some g43_1_2 rfl rfl) (st_leq rfl rfl (decide_eq_true hc2)) (rc (pl P43_1 5) (st_pick rfl rfl) (rc (pl P43_1 6) (st_assign rfl) rn))) ?_; clear hE a; intro a hE
   refine p_nil (x_norm (wp_ret ?_))
   refine ret_one (v := Value.bool true) rfl hE (.tmp rfl .nil) ?_
   exact ⟨by rw [seq_t (by omega) (by omega)], K_0⟩
  ·
   refine qn hE (rg (v := Value.bool false) (pl P43_1 4) (wn_some g43_1_2 rfl rfl) (st_leq rfl rfl (decide_eq_false hc2)) (rc (pl P43_1 5) (st_pick rfl rfl) (rc (pl P43_1 6) (st_assign rfl) rn))) ?_; clear hE a; intro a hE
   refine p_nil (x_norm (wp_ret ?_))
   refine ret_one (v := Value.bool false) rfl hE (.tmp rfl .nil) ?_
   exact ⟨by rw [seq_f (by omega)], K_0⟩
 ·
  refine qn hE (rg (v := Value.bool false) (pl P43_1 1) wn_none (st_geq rfl rfl (decide_eq_false hc1)) (rc (pl P43_1 2) (st_move rfl) (rk (pl P43_1 3) (wn_some g43_1_2 rfl rfl) (rk (pl P43_1 4) (wn_some g43_1_2 rfl rfl) (rc (pl P43_1 5) (st_pick rfl rfl) (rc (pl P43_1 6) (st_assign rfl) rn)))))) ?_; clear hE a; intro a hE
  refine p_nil (x_norm (wp_ret ?_))
  refine ret_one (v := Value.bool false) rfl hE (.tmp rfl .nil) ?_
  exact ⟨by rw [seq_f (by omega)], K_0⟩
theorem R30_0_l : List.range (regOf Tryd.f30 0).size = [0, 1] := by kernel_rfl
theorem R30_1_l : List.range (regOf Tryd.f30 1).size = [0, 1, 2, 3, 4, 5, 6, 7, 8, 9, 10, 11, 12, 13, 14, 15, 16, 17, 18, 19, 20, 21, 22, 23] := by kernel_rfl
theorem body30 : Tryd.f30.body = some (.seq (.region 0 (regOf Tryd.f30 0) false) (.seq (.region 1 (regOf Tryd.f30 1) false) (.ret))) := by kernel_rfl
theorem P30_0 : (List.range (regOf Tryd.f30 0).size).map (pj (regOf Tryd.f30 0)) = [some (some 1, .box 61 (.tmp 0), 0, none), some (some 2, .assign (.const (.bool false)), 4, none)] := by kernel_rfl
theorem P30_1 : (List.range (regOf Tryd.f30 1).size).map (pj (regOf Tryd.f30 1)) = [some (some 3, .fieldAddr 61 (.tmp 1) 0, 0, none), some (some 4, .load 3 (.tmp 3), 3, none), some (some 5, .call { callee := .value (.func 42), args := #[.tmp 4], argTypes := #[3] }, 4, none), some (some 6, .move (.tmp 5), 4, none), some (some 7, .fieldAddr 61 (.tmp 1) 1, 0, some (3, true)), some (some 8, .load 3 (.tmp 7), 3, some (3, true)), some (some 9, .call { callee := .value (.func 42), args := #[.tmp 8], argTypes := #[3] }, 4, some (3, true)), some (some 10, .pick (.tmp 6) (.tmp 9) (.const (.bool false)), 4, none), some (some 11, .move (.tmp 10), 4, none), some (some 12, .fieldAddr 61 (.tmp 1) 2, 0, some (8, true)), some (some 13, .load 3 (.tmp 12), 3, some (8, true)), some (some 14, .call { callee := .value (.func 43), args := #[.tmp 13], argTypes := #[3] }, 4, some (8, true)), some (some 15, .pick (.tmp 11) (.tmp 14) (.const (.bool false)), 4, none), some (some 16, .move (.tmp 15), 4, none), some (some 17, .fieldAddr 61 (.tmp 1) 3, 0, some (13, true)), some (some 18, .load 3 (.tmp 17), 3, some (13, true)), some (some 19, .binOp .geq 3 (.tmp 18) (.const (.int .i64 0)) 3, 4, some (13, true)), some (some 20, .pick (.tmp 16) (.tmp 19) (.const (.bool false)), 4, none), some (some 21, .move (.tmp 20), 4, none), some (some 22, .fieldAddr 61 (.tmp 1) 3, 0, some (18, true)), some (some 23, .load 3 (.tmp 22), 3, some (18, true)), some (some 24, .binOp .leq 3 (.tmp 23) (.const (.int .i64 2305843009213693952)) 3, 4, some (18, true)), some (some 25, .pick (.tmp 21) (.tmp 24) (.const (.bool false)), 4, none), some (some 2, .assign (.tmp 25), 4, none)] := by kernel_rfl
theorem tS3 : (Tryd.prog.info? 3).map (·.size) = some 1 := by kernel_rfl
theorem tA3 : (Tryd.prog.underlying 3).map aggD = some false := by kernel_rfl
theorem cl42 : callable Tryd.f42 = true := by kernel_rfl
theorem g30_1_3 : dstOf (regOf Tryd.f30 1) 3 = some 6 := by kernel_rfl
theorem g30_1_8 : dstOf (regOf Tryd.f30 1) 8 = some 11 := by kernel_rfl
theorem cl43 : callable Tryd.f43 = true := by kernel_rfl
theorem g30_1_13 : dstOf (regOf Tryd.f30 1) 13 = some 16 := by kernel_rfl
theorem g30_1_18 : dstOf (regOf Tryd.f30 1) 18 = some 21 := by kernel_rfl
set_option maxHeartbeats 4000000 in
theorem rright (r : R4) (w : World) : Calls Tryd.prog 30 #[.agg #[.int .i64 r.1, .int .i64 r.2.1, .int .i64 r.2.2.1, .int .i64 r.2.2.2]] w fun e w' => e = .returned (.bool (okR r)) ∧ Kp w w' (fun _ => False) := by
 have K_0 := Kp.refl w (fun _ => False)
 refine enter (args := [Value.agg #[Value.int .i64 r.1, Value.int .i64 r.2.1, Value.int .i64 r.2.2.1, Value.int .i64 r.2.2.2]]) (n := 26) Tryd.func30 body30 rfl rfl rfl ?_
 intro a hE
 refine c_reg R30_0_l ?_
 refine p_cons (s_box (pl P30_0 0) hE wn_none rfl rfl ?_)
 clear hE a; intro g1 w2 z3 B_g1 hk a hE
 replace B_g1 : w2.heap[g1]? = some (.cells #[Value.int .i64 r.1, Value.int .i64 r.2.1, Value.int .i64 r.2.2.1, Value.int .i64 r.2.2.2] 61 (0, 0)) := B_g1
 have z_0_g1 := Nat.le_trans K_0.kept.1 z3
 replace K_0 := K_0.then_ hk (fun _ h => h.elim)
 clear hk
 refine q0 (pl P30_0 1) hE (st_assign rfl) ?_; clear hE a; intro a hE
 refine p_nil (x_norm (c_reg R30_1_l ?_))
 refine qn hE (rc (pl P30_1 0) (st_fieldAddr Tryd.underlying61 rfl tS3 rfl rfl) (rc (pl P30_1 1) (st_load1 tA3 rfl ((blk_cell B_g1 0).trans rfl)) rn)) ?_; clear hE a; intro a hE
 refine p_cons (s_call (xs := [Operand.tmp 4]) (args := [Value.int .i64 r.1]) (pl P30_1 2) hE wn_none rfl rfl Tryd.func42 cl42 (rnode r.1 _) ?_)
 rintro e w4 ⟨rfl, hk⟩
 replace B_g1 := kp_blk B_g1 hk (fun h => h)
 replace K_0 := K_0.then_ hk (fun _ h => h.elim)
 refine ⟨_, rfl, ?_⟩; clear hE a; intro a hE
 refine q0 (pl P30_1 3) hE (st_move rfl) ?_; clear hE a; intro a hE
 rcases Bool.eq_false_or_eq_true (nodeB r.1) with hb5 | hb5
 ·
  rw [hb5] at hE
  refine qn hE (rg (pl P30_1 4) (wn_some g30_1_3 rfl rfl) (st_fieldAddr Tryd.underlying61 rfl tS3 rfl rfl) (rg (pl P30_1 5) (wn_some g30_1_3 rfl rfl) (st_load1 tA3 rfl ((blk_cell B_g1 1).trans rfl)) rn)) ?_; clear hE a; intro a hE
  refine p_cons (s_call (xs := [Operand.tmp 8]) (args := [Value.int .i64 r.2.1]) (pl P30_1 6) hE (wn_some g30_1_3 rfl rfl) rfl rfl Tryd.func42 cl42 (rnode r.2.1 _) ?_)
  rintro e w6 ⟨rfl, hk⟩
  replace B_g1 := kp_blk B_g1 hk (fun h => h)
  replace K_0 := K_0.then_ hk (fun _ h => h.elim)
  refine ⟨_, rfl, ?_⟩; clear hE a; intro a hE
  refine qn hE (rc (pl P30_1 7) (st_pick rfl rfl) (rc (pl P30_1 8) (st_move rfl) rn)) ?_; clear hE a; intro a hE
  rcases Bool.eq_false_or_eq_true (nodeB r.2.1) with hb7 | hb7
  ·
   rw [hb7] at hE
   refine qn hE (rg (pl P30_1 9) (wn_some g30_1_8 rfl rfl) (st_fieldAddr Tryd.underlying61 rfl tS3 rfl rfl) (rg (pl P30_1 10) (wn_some g30_1_8 rfl rfl) (st_load1 tA3 rfl ((blk_cell B_g1 2).trans rfl)) rn)) ?_; clear hE a; intro a hE
   refine p_cons (s_call (xs := [Operand.tmp 13]) (args := [Value.int .i64 r.2.2.1]) (pl P30_1 11) hE (wn_some g30_1_8 rfl rfl) rfl rfl Tryd.func43 cl43 (rvalid r.2.2.1 _) ?_)
   rintro e w8 ⟨rfl, hk⟩
   replace B_g1 := kp_blk B_g1 hk (fun h => h)
   replace K_0 := K_0.then_ hk (fun _ h => h.elim)
   refine ⟨_, rfl, ?_⟩; clear hE a; intro a hE
   refine qn hE (rc (pl P30_1 12) (st_pick rfl rfl) (rc (pl P30_1 13) (st_move rfl) rn)) ?_; clear hE a; intro a hE
   rcases Bool.eq_false_or_eq_true (seqB r.2.2.1) with hb9 | hb9
   ·
    rw [hb9] at hE
    refine qn hE (rg (pl P30_1 14) (wn_some g30_1_13 rfl rfl) (st_fieldAddr Tryd.underlying61 rfl tS3 rfl rfl) (rg (pl P30_1 15) (wn_some g30_1_13 rfl rfl) (st_load1 tA3 rfl ((blk_cell B_g1 3).trans rfl)) rn)) ?_; clear hE a; intro a hE
    rcases Decidable.em (0 ≤ r.2.2.2) with hc10 | hc10
    ·
     refine qn hE (rg (v := Value.bool true) (pl P30_1 16) (wn_some g30_1_13 rfl rfl) (st_geq rfl rfl (decide_eq_true hc10)) (rc (pl P30_1 17) (st_pick rfl rfl) (rc (pl P30_1 18) (st_move rfl) (rg (pl P30_1 19) (wn_some g30_1_18 rfl rfl) (st_fieldAddr Tryd.underlying61 rfl tS3 rfl rfl) (rg (pl P30_1 20) (wn_some g30_1_18 rfl rfl) (st_load1 tA3 rfl ((blk_cell B_g1 3).trans rfl)) rn))))) ?_; clear hE a; intro a hE
     rcases Decidable.em (r.2.2.2 ≤ 2305843009213693952) with hc11 | hc11
     ·
      refine qn hE (rg (v := Value.bool true) (pl P30_1 21) (wn_some g30_1_18 rfl rfl) (st_leq rfl rfl (decide_eq_true hc11)) (rc (pl P30_1 22) (st_pick rfl rfl) (rc (pl P30_1 23) (st_assign rfl) rn))) ?_; clear hE a; intro a hE
      refine p_nil (x_norm (wp_ret ?_))
      refine ret_one (v := Value.bool true) rfl hE (.tmp rfl .nil) ?_
      exact ⟨by unfold okR; rw [hb5, hb7, hb9, decide_eq_true ⟨by omega, by omega⟩]; rfl, K_0⟩
     ·
      refine qn hE (rg (v := Value.bool false) (pl P30_1 21) (wn_some g30_1_18 rfl rfl) (st_leq rfl rfl (decide_eq_false hc11)) (rc (pl P30_1 22) (st_pick rfl rfl) (rc (pl P30_1 23) (st_assign rfl) rn))) ?_; clear hE a; intro a hE
      refine p_nil (x_norm (wp_ret ?_))
      refine ret_one (v := Value.bool false) rfl hE (.tmp rfl .nil) ?_
      have e9 : okR r = false := by
       unfold okR
       rw [hb5, hb7, hb9]
       first | rfl | (rw [decide_eq_false (by omega)]; rfl)
      exact ⟨by rw [e9], K_0⟩
    ·
     refine qn hE (rg (v := Value.bool false) (pl P30_1 16) (wn_some g30_1_13 rfl rfl) (st_geq rfl rfl (decide_eq_false hc10)) (rc (pl P30_1 17) (st_pick rfl rfl) (rc (pl P30_1 18) (st_move rfl) (rk (pl P30_1 19) (wn_some g30_1_18 rfl rfl) (rk (pl P30_1 20) (wn_some g30_1_18 rfl rfl) (rk (pl P30_1 21) (wn_some g30_1_18 rfl rfl) (rc (pl P30_1 22) (st_pick rfl rfl) (rc (pl P30_1 23) (st_assign rfl) rn)))))))) ?_; clear hE a; intro a hE
     refine p_nil (x_norm (wp_ret ?_))
     refine ret_one (v := Value.bool false) rfl hE (.tmp rfl .nil) ?_
     have e9 : okR r = false := by
      unfold okR
      rw [hb5, hb7, hb9]
      first | rfl | (rw [decide_eq_false (by omega)]; rfl)
     exact ⟨by rw [e9], K_0⟩
   ·
    rw [hb9] at hE
    refine qn hE (rk (pl P30_1 14) (wn_some g30_1_13 rfl rfl) (rk (pl P30_1 15) (wn_some g30_1_13 rfl rfl) (rk (pl P30_1 16) (wn_some g30_1_13 rfl rfl) (rc (pl P30_1 17) (st_pick rfl rfl) (rc (pl P30_1 18) (st_move rfl) (rk (pl P30_1 19) (wn_some g30_1_18 rfl rfl) (rk (pl P30_1 20) (wn_some g30_1_18 rfl rfl) (rk (pl P30_1 21) (wn_some g30_1_18 rfl rfl) (rc (pl P30_1 22) (st_pick rfl rfl) (rc (pl P30_1 23) (st_assign rfl) rn)))))))))) ?_; clear hE a; intro a hE
    refine p_nil (x_norm (wp_ret ?_))
    refine ret_one (v := Value.bool false) rfl hE (.tmp rfl .nil) ?_
    have e9 : okR r = false := by
     unfold okR
     rw [hb5, hb7, hb9]
     first | rfl | (rw [decide_eq_false (by omega)]; rfl)
    exact ⟨by rw [e9], K_0⟩
  ·
   rw [hb7] at hE
   refine qn hE (rk (pl P30_1 9) (wn_some g30_1_8 rfl rfl) (rk (pl P30_1 10) (wn_some g30_1_8 rfl rfl) (rk (pl P30_1 11) (wn_some g30_1_8 rfl rfl) (rc (pl P30_1 12) (st_pick rfl rfl) (rc (pl P30_1 13) (st_move rfl) (rk (pl P30_1 14) (wn_some g30_1_13 rfl rfl) (rk (pl P30_1 15) (wn_some g30_1_13 rfl rfl) (rk (pl P30_1 16) (wn_some g30_1_13 rfl rfl) (rc (pl P30_1 17) (st_pick rfl rfl) (rc (pl P30_1 18) (st_move rfl) (rk (pl P30_1 19) (wn_some g30_1_18 rfl rfl) (rk (pl P30_1 20) (wn_some g30_1_18 rfl rfl) (rk (pl P30_1 21) (wn_some g30_1_18 rfl rfl) (rc (pl P30_1 22) (st_pick rfl rfl) (rc (pl P30_1 23) (st_assign rfl) rn))))))))))))))) ?_; clear hE a; intro a hE
   refine p_nil (x_norm (wp_ret ?_))
   refine ret_one (v := Value.bool false) rfl hE (.tmp rfl .nil) ?_
   have e9 : okR r = false := by
    unfold okR
    rw [hb5, hb7]
    first | rfl | (rw [decide_eq_false (by omega)]; rfl)
   exact ⟨by rw [e9], K_0⟩
 ·
  rw [hb5] at hE
  refine qn hE (rk (pl P30_1 4) (wn_some g30_1_3 rfl rfl) (rk (pl P30_1 5) (wn_some g30_1_3 rfl rfl) (rk (pl P30_1 6) (wn_some g30_1_3 rfl rfl) (rc (pl P30_1 7) (st_pick rfl rfl) (rc (pl P30_1 8) (st_move rfl) (rk (pl P30_1 9) (wn_some g30_1_8 rfl rfl) (rk (pl P30_1 10) (wn_some g30_1_8 rfl rfl) (rk (pl P30_1 11) (wn_some g30_1_8 rfl rfl) (rc (pl P30_1 12) (st_pick rfl rfl) (rc (pl P30_1 13) (st_move rfl) (rk (pl P30_1 14) (wn_some g30_1_13 rfl rfl) (rk (pl P30_1 15) (wn_some g30_1_13 rfl rfl) (rk (pl P30_1 16) (wn_some g30_1_13 rfl rfl) (rc (pl P30_1 17) (st_pick rfl rfl) (rc (pl P30_1 18) (st_move rfl) (rk (pl P30_1 19) (wn_some g30_1_18 rfl rfl) (rk (pl P30_1 20) (wn_some g30_1_18 rfl rfl) (rk (pl P30_1 21) (wn_some g30_1_18 rfl rfl) (rc (pl P30_1 22) (st_pick rfl rfl) (rc (pl P30_1 23) (st_assign rfl) rn)))))))))))))))))))) ?_; clear hE a; intro a hE
  refine p_nil (x_norm (wp_ret ?_))
  refine ret_one (v := Value.bool false) rfl hE (.tmp rfl .nil) ?_
  have e9 : okR r = false := by
   unfold okR
   rw [hb5]
   first | rfl | (rw [decide_eq_false (by omega)]; rfl)
  exact ⟨by rw [e9], K_0⟩
theorem R31_0_l : List.range (regOf Tryd.f31 0).size = [0] := by kernel_rfl
theorem R31_1_l : List.range (regOf Tryd.f31 1).size = [0] := by kernel_rfl
theorem R31_2_l : List.range (regOf Tryd.f31 2).size = [0, 1, 2, 3, 4, 5, 6] := by kernel_rfl
theorem R31_4_l : List.range (regOf Tryd.f31 4).size = [0, 1, 2, 3, 4, 5, 6, 7, 8, 9] := by kernel_rfl
theorem R31_5_l : List.range (regOf Tryd.f31 5).size = [0, 1] := by kernel_rfl
theorem R31_3_l : List.range (regOf Tryd.f31 3).size = [0, 1, 2] := by kernel_rfl
theorem R31_6_l : List.range (regOf Tryd.f31 6).size = [0] := by kernel_rfl
theorem body31 : Tryd.f31.body = some (.seq (.region 0 (regOf Tryd.f31 0) false) (.seq (.seq (.region 1 (regOf Tryd.f31 1) false) (.block 0 (.loop (.seq (.seq (.region 2 (regOf Tryd.f31 2) false) (.cond (Operand.tmp 12) (.skip) (.exit 0))) (.seq (.block 1 (.seq (.region 4 (regOf Tryd.f31 4) false) (.cond (Operand.tmp 24) (.seq (.region 5 (regOf Tryd.f31 5) false) (.ret)) (.skip)))) (.region 3 (regOf Tryd.f31 3) false)))))) (.seq (.region 6 (regOf Tryd.f31 6) false) (.ret)))) := by kernel_rfl
theorem p31_0_0 : pj (regOf Tryd.f31 0) 0 = some (some 4, .assign (.const (.int .i64 0)), 3, none) := by kernel_rfl
theorem p31_1_0 : pj (regOf Tryd.f31 1) 0 = some (some 5, .assign (.const (.int .i64 0)), 3, none) := by kernel_rfl
theorem P31_2 : (List.range (regOf Tryd.f31 2).size).map (pj (regOf Tryd.f31 2)) = [some (some 6, .move (.tmp 5), 3, none), some (some 7, .move (.tmp 0), 54, none), some (some 8, .nilCheck (.tmp 7), 0, none), some (some 9, .fieldAddr 56 (.tmp 8) 1, 0, none), some (some 10, .load 22 (.tmp 9), 22, none), some (some 11, .call { callee := .builtin .len, args := #[.tmp 10], argTypes := #[22] }, 3, none), some (some 12, .binOp .lss 3 (.tmp 6) (.tmp 11) 3, 4, none)] := by kernel_rfl
theorem tS22 : (Tryd.prog.info? 22).map (·.size) = some 1 := by kernel_rfl
theorem tA22 : (Tryd.prog.underlying 22).map aggD = some false := by kernel_rfl
theorem P31_4 : (List.range (regOf Tryd.f31 4).size).map (pj (regOf Tryd.f31 4)) = [some (some 15, .move (.tmp 0), 54, none), some (some 16, .nilCheck (.tmp 15), 0, none), some (some 17, .fieldAddr 56 (.tmp 16) 1, 0, none), some (some 18, .load 22 (.tmp 17), 22, none), some (some 19, .move (.tmp 5), 3, none), some (some 20, .indexAddr 22 (.tmp 18) (.tmp 19), 0, none), some (some 21, .fieldAddr 61 (.tmp 20) 0, 0, none), some (some 22, .load 3 (.tmp 21), 3, none), some (some 23, .move (.tmp 1), 3, none), some (some 24, .binOp .eql 3 (.tmp 22) (.tmp 23) 3, 4, none)] := by kernel_rfl
theorem tS61 : (Tryd.prog.info? 61).map (·.size) = some 4 := by kernel_rfl
theorem P31_5 : (List.range (regOf Tryd.f31 5).size).map (pj (regOf Tryd.f31 5)) = [some (some 25, .move (.tmp 5), 3, none), some (some 4, .assign (.tmp 25), 3, none)] := by kernel_rfl
theorem P31_3 : (List.range (regOf Tryd.f31 3).size).map (pj (regOf Tryd.f31 3)) = [some (some 13, .move (.tmp 5), 3, none), some (some 14, .binOp .add 3 (.tmp 13) (.const (.int .i64 1)) 3, 3, none), some (some 5, .assign (.tmp 14), 3, none)] := by kernel_rfl
theorem p31_6_0 : pj (regOf Tryd.f31 6) 0 = some (some 4, .assign (.const (.int .i64 (-1))), 3, none) := by kernel_rfl
set_option maxHeartbeats 4000000 in
theorem rfind (gd : Nat) (A : Option Addr) (c : Nat) (L : List R4) (s r : Int) (hrr : fiR L s = r) (w : World) (hd : w.heap[gd]? = some (.cells #[.int .i64 32, .slice A L.length c] 56 (0, 0))) (hR : Rv.RdV w A L.length 4 (flR L)) (hcA : L.length ≤ c ∧ (A = none → c = 0)) (hll : L.length ≤ 1000) (hnd : ¬ OB A gd) : Calls Tryd.prog 31 #[.pointer (some ⟨gd, 0, none⟩), .int .i64 s] w fun e w' => e = .returned (.int .i64 r) ∧ Kp w w' (fun _ => False) := by
 have K_0 := Kp.refl w (fun _ => False)
 have B_gd := hd
 have O_L := hR
 have Nb_L_gd := hnd
 refine enter (args := [Value.pointer (some ⟨gd, 0, none⟩), Value.int .i64 s]) (n := 26) Tryd.func31 body31 rfl rfl rfl ?_
 intro a hE
 refine c_reg R31_0_l ?_
 refine q0 p31_0_0 hE (st_assign rfl) ?_; clear hE a; intro a hE
 refine p_nil (x_norm (wp_seq (c_reg R31_1_l ?_)))
 refine q0 p31_1_0 hE (st_assign rfl) ?_; clear hE a; intro a hE
 refine p_nil (x_norm (wp_block ?_))
 refine c_loop (α := Nat) (fun i a W => En 26 a [(0, Value.pointer (some ⟨gd, 0, none⟩)), (1, Value.int .i64 s), (5, Value.int .i64 (i : Int))] ∧ i ≤ L.length ∧ (∀ j p, j < i → L[j]? = some p → p.1 ≠ s) ∧ W.heap[gd]? = some (.cells #[Value.int .i64 32, Value.slice A L.length c] 56 (0, 0)) ∧ Rv.RdV W A L.length 4 (flR L) ∧ ¬ OB A gd ∧ Kp w W (fun _ => False)) (fun i => L.length - i) (0) ?_ ?_
 ·
  exact ⟨En.sub hE ⟨rfl, rfl, rfl, trivial⟩, Nat.zero_le _, (fun j p h => absurd h (Nat.not_lt_zero _)), B_gd, O_L, Nb_L_gd, K_0⟩
 ·
  clear hE a
  rintro i a w1 ⟨hE, hi9, hno, B_gd, O_L, Nb_L_gd, K_0⟩
  refine wp_seq ?_
  rcases Decidable.em ((i : Int) < (L.length : Int)) with hK1 | hK1
  ·
   refine c_reg R31_2_l ?_
   refine qn hE (rc (pl P31_2 0) (st_move rfl) (rc (pl P31_2 1) (st_move rfl) (rc (pl P31_2 2) (st_nil rfl) (rc (pl P31_2 3) (st_fieldAddr Tryd.underlying56 rfl tS22 rfl rfl) (rc (pl P31_2 4) (st_load1 tA22 rfl ((blk_cell B_gd 1).trans rfl)) (rc (pl P31_2 5) (st_len Tryd.underlying22 rfl) (rc (pl P31_2 6) (st_lss (b := true) rfl rfl (decide_eq_true hK1)) rn))))))) ?_; clear hE a; intro a hE
   refine p_nil (x_norm ?_)
   refine c_cond (t := true) hE rfl ?_
   refine wp_skip (x_norm (wp_seq (wp_block ?_)))
   obtain ⟨o, hx⟩ : ∃ o, L[i]? = some o := ⟨_, List.getElem?_eq_getElem (by omega)⟩
   have hAeo := (Rv.rdv_elem (fl := fl4) O_L (by decide) (fun _ => rfl) hx).1
   rcases Decidable.em (o.1 = s) with hEQ | hEQ
   ·
    refine c_reg R31_4_l ?_
    refine qn hE (rc (pl P31_4 0) (st_move rfl) (rc (pl P31_4 1) (st_nil rfl) (rc (pl P31_4 2) (st_fieldAddr Tryd.underlying56 rfl tS22 rfl rfl) (rc (pl P31_4 3) (st_load1 tA22 rfl ((blk_cell B_gd 1).trans rfl)) (rc (pl P31_4 4) (st_move rfl) (rc (pl P31_4 5) (st_indexAddrR (i := i) (s := 4) Tryd.underlying22 tS61 hAeo rfl rfl (by omega)) (rc (pl P31_4 6) (st_fieldAddrR (off := i * 4) (f0 := 0) (o' := i * 4) Tryd.underlying61 rfl tS3 rfl (by omega) rfl) (rc (pl P31_4 7) (st_loadR1 (off := i * 4) (j := 0) tA3 (Rv.rdv_elem (fl := fl4) O_L (by decide) (fun _ => rfl) hx).2 rfl (by omega) rfl) (rc (pl P31_4 8) (st_move rfl) (rc (pl P31_4 9) (st_eql (b := true) rfl rfl (decide_eq_true hEQ)) rn)))))))))) ?_; clear hE a; intro a hE
    refine p_nil (x_norm ?_)
    refine c_cond (t := true) hE rfl ?_
    refine c_reg R31_5_l ?_
    refine qn hE (rc (pl P31_5 0) (st_move rfl) (rc (pl P31_5 1) (st_assign rfl) rn)) ?_; clear hE a; intro a hE
    refine p_nil (x_norm (wp_ret (x_retB (x_ret (x_ret (x_retB (x_ret ?_)))))))
    refine ret_one (v := Value.int .i64 (i : Int)) rfl hE (.tmp rfl .nil) ?_
    have hra := at_of hx hEQ hno
    exact ⟨by rw [← hrr, hra.1], K_0⟩
   ·
    refine c_reg R31_4_l ?_
    refine qn hE (rc (pl P31_4 0) (st_move rfl) (rc (pl P31_4 1) (st_nil rfl) (rc (pl P31_4 2) (st_fieldAddr Tryd.underlying56 rfl tS22 rfl rfl) (rc (pl P31_4 3) (st_load1 tA22 rfl ((blk_cell B_gd 1).trans rfl)) (rc (pl P31_4 4) (st_move rfl) (rc (pl P31_4 5) (st_indexAddrR (i := i) (s := 4) Tryd.underlying22 tS61 hAeo rfl rfl (by omega)) (rc (pl P31_4 6) (st_fieldAddrR (off := i * 4) (f0 := 0) (o' := i * 4) Tryd.underlying61 rfl tS3 rfl (by omega) rfl) (rc (pl P31_4 7) (st_loadR1 (off := i * 4) (j := 0) tA3 (Rv.rdv_elem (fl := fl4) O_L (by decide) (fun _ => rfl) hx).2 rfl (by omega) rfl) (rc (pl P31_4 8) (st_move rfl) (rc (pl P31_4 9) (st_eql (b := false) rfl rfl (decide_eq_false hEQ)) rn)))))))))) ?_; clear hE a; intro a hE
    refine p_nil (x_norm ?_)
    refine c_cond (t := false) hE rfl ?_
    refine wp_skip (x_normB (x_norm (c_regL R31_3_l ?_)))
    refine qn hE (rc (pl P31_3 0) (st_move rfl) (rc (pl P31_3 1) (st_add (z := (i : Int) + 1) rfl rfl (wr_i64 _ (by omega) (by omega))) (rc (pl P31_3 2) (st_assign rfl) rn))) ?_; clear hE a; intro a hE
    refine p_nil (x_norm ?_)
    have hno9 : ∀ j p, j < i + 1 → L[j]? = some p → p.1 ≠ s := fun j p hj hp => by
     rcases Nat.lt_or_ge j i with q | q
     · exact hno j p q hp
     ·
      obtain rfl : j = i := by omega
      rw [hx] at hp
      injection hp with hp
      rw [← hp]; exact hEQ
    exact ⟨i + 1, by omega, En.sub hE ⟨rfl, rfl, rfl, trivial⟩, by omega, hno9, B_gd, O_L, Nb_L_gd, K_0⟩
  ·
   refine c_reg R31_2_l ?_
   refine qn hE (rc (pl P31_2 0) (st_move rfl) (rc (pl P31_2 1) (st_move rfl) (rc (pl P31_2 2) (st_nil rfl) (rc (pl P31_2 3) (st_fieldAddr Tryd.underlying56 rfl tS22 rfl rfl) (rc (pl P31_2 4) (st_load1 tA22 rfl ((blk_cell B_gd 1).trans rfl)) (rc (pl P31_2 5) (st_len Tryd.underlying22 rfl) (rc (pl P31_2 6) (st_lss (b := false) rfl rfl (decide_eq_false hK1)) rn))))))) ?_; clear hE a; intro a hE
   refine p_nil (x_norm ?_)
   refine c_cond (t := false) hE rfl ?_
   refine wp_exit (x_exit (x_exit ?_))
   obtain rfl : i = L.length := by omega
   have hrn := none_of hno
   refine x_in (x_norm (c_reg R31_6_l ?_))
   refine q0 p31_6_0 hE (st_assign rfl) ?_; clear hE a; intro a hE
   refine p_nil (x_norm (wp_ret ?_))
   refine ret_one (v := Value.int .i64 (-1)) rfl hE (.tmp rfl .nil) ?_
   exact ⟨by rw [← hrr, hrn.1], K_0⟩
end Go.Proofs.YtnmlckaeheiodaaDoor.Rd19
