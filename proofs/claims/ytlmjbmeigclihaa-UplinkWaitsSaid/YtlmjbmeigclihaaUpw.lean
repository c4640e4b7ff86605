/- Layer 20: UplinkWaits. -/
import Derived.Test.YtlmjbmeigclihaaUrd
import Derived.Test.YtlmjbmeigclihaaUpt
set_option maxRecDepth 100000
set_option linter.unusedVariables false
set_option linter.unusedSimpArgs false
namespace Go.Proofs.Ytlmjbmeigclihaa.Uw
open Go.RowKit Go.Proofs.YtlmjbmeigclihaaW.PrintWords Go.Proofs.Ytlmjbmeigclihaa.Ds Go.Proofs.Ytlmjbmeigclihaa.Up Go.Proofs.Ytlmjbmeigclihaa.Ur Go.Proofs.Ytlmjbmeigclihaa.Ud Go.Proofs.Ytlmjbmeigclihaa.Ut Go.Proofs.Ytlmjbmeigclihaa.KdOpen
open Go.Proofs.Ytlmjbmeigclihaa.Pk (Kp)
open Go.Proofs.Ytlmjbmeigclihaa.Mi (st_eqlP st_neqP x_normS x_retS x_exitS MapI getI putI delI)
/-- The program's map and the document's list. -/
def Rel (l : LO) (L : L3) : Prop := l.Perm L ∧ L.Pairwise (fun a b => a.1 < b.1)
theorem rel_nil : Rel [] [] := ⟨List.Perm.refl _, List.Pairwise.nil⟩
theorem Rel.keys {l : LO} {L : L3} (h : Rel l L) : (L.map (·.1)).Nodup := List.pairwise_map.2 (h.2.imp (fun h e => by rw [e] at h; exact Int.lt_irrefl _ h))
theorem Rel.keysl {l : LO} {L : L3} (h : Rel l L) : (l.map (·.1)).Nodup := ((h.1.map (·.1)).nodup_iff).2 h.keys
theorem Rel.len {l : LO} {L : L3} (h : Rel l L) : l.length = L.length := h.1.length_eq
theorem Rel.ks {l : LO} {L : L3} (h : Rel l L) : Ms.ks l = L.map (·.1) := by
  refine List.Perm.eq_of_pairwise (le := fun a b => a ≤ b) (fun a b _ _ h1 h2 => Int.le_antisymm h1 h2) (Ms.ks_sorted l) (List.pairwise_map.2 (h.2.imp (fun h => Int.le_of_lt h))) ?_
  unfold Ms.ks
  exact (List.mergeSort_perm _ _).trans (h.1.map (·.1))
theorem rm_del : ∀ (L : L3) (s : Int), rmL L s = delI L s
  | [], _ => rfl
  | a :: L, s => by unfold rmL delI; rw [rm_del L s]
theorem del_cons {l : LO} (hn : (l.map (·.1)).Nodup) {p : Int × Int × Int} (hp : p ∈ l) : l.Perm (p :: delI l p.1) := by
  induction l with
  | nil => cases hp
  | cons q l ih =>
    rw [List.map_cons, List.nodup_cons] at hn
    unfold delI
    by_cases hq : q.1 = p.1
    · rw [if_pos hq]
      rcases List.mem_cons.1 hp with rfl | hp
      · exact List.Perm.refl _
      · exact absurd (List.mem_map.2 ⟨p, hp, hq.symm⟩) hn.1
    · rw [if_neg hq]
      rcases List.mem_cons.1 hp with rfl | hp
      · exact absurd rfl hq
      · exact ((ih hn.2 hp).cons q).trans (List.Perm.swap ..)
theorem del_perm {l L : LO} (h : l.Perm L) (hn : (l.map (·.1)).Nodup) (s : Int) : (delI l s).Perm (delI L s) := by
  have hn2 : (L.map (·.1)).Nodup := ((h.map (·.1)).nodup_iff).1 hn
  cases hg : getI l s with
  | none =>
    have h1 := Mi.getI_none.1 hg
    rw [Mi.delI_none h1, Mi.delI_none (fun p hp => h1 p (h.mem_iff.2 hp))]
    exact h
  | some v =>
    have hm := Mi.getI_mem hg
    exact List.Perm.cons_inv (((del_cons hn hm).symm.trans h).trans (del_cons hn2 (h.mem_iff.1 hm)))
theorem put_perm {l : LO} (hn : (l.map (·.1)).Nodup) (s : Int) (v : Int × Int) : (putI l s v).Perm ((s, v) :: delI l s) := by
  induction l with
  | nil => exact List.Perm.refl _
  | cons q l ih =>
    rw [List.map_cons, List.nodup_cons] at hn
    unfold putI delI
    by_cases hq : q.1 = s
    · rw [if_pos hq, if_pos hq]
    · rw [if_neg hq, if_neg hq]
      exact ((ih hn.2).cons q).trans (List.Perm.swap ..)
theorem ins_perm : ∀ (L : L3) (o : Int × Int × Int), (insL L o).Perm (o :: L)
  | [], o => List.Perm.refl _
  | a :: L, o => by
    unfold insL
    split
    · exact ((ins_perm L o).cons a).trans (List.Perm.swap ..)
    · exact List.Perm.refl _
theorem ins_sorted : ∀ {L : L3} {o : Int × Int × Int}, L.Pairwise (fun a b => a.1 < b.1) → (∀ p ∈ L, p.1 ≠ o.1) → (insL L o).Pairwise (fun a b => a.1 < b.1)
  | [], o, _, _ => List.pairwise_singleton _ _
  | a :: L, o, h, hne => by
    obtain ⟨h1, h2⟩ := List.pairwise_cons.1 h
    have ha := hne a (List.mem_cons_self ..)
    unfold insL
    split
    · rename_i hlt
      refine List.pairwise_cons.2 ⟨fun q hq => ?_, ins_sorted h2 (fun p hp => hne p (List.mem_cons_of_mem _ hp))⟩
      rcases List.mem_cons.1 ((ins_perm L o).mem_iff.1 hq) with rfl | hq
      · exact hlt
      · exact h1 q hq
    · rename_i hge
      refine List.pairwise_cons.2 ⟨fun q hq => ?_, h⟩
      rcases List.mem_cons.1 hq with rfl | hq
      · omega
      · have := h1 q hq; omega
theorem del_ne {L : LO} (hn : (L.map (·.1)).Nodup) (s : Int) : ∀ p ∈ delI L s, p.1 ≠ s := by
  have : getI (delI L s) s = none := by rw [Mi.getI_del hn, if_pos rfl]
  exact Mi.getI_none.1 this
theorem Rel.del {l : LO} {L : L3} (h : Rel l L) (s : Int) : Rel (delI l s) (rmL L s) := by
  rw [rm_del]
  exact ⟨del_perm h.1 h.keysl s, h.2.sublist (Mi.delI_sub s)⟩
theorem Rel.put {l : LO} {L : L3} (h : Rel l L) (s : Int) (v : Int × Int) : Rel (putI l s v) (insL (rmL L s) (s, v)) := by
  rw [rm_del]
  refine ⟨((put_perm h.keysl s v).trans ((del_perm h.1 h.keysl s).cons _)).trans (ins_perm _ _).symm, ins_sorted (h.2.sublist (Mi.delI_sub s)) (del_ne h.keys s)⟩
theorem Rel.send {l : LO} {L : L3} (h : Rel l L) (wt s now : Int) : Rel (sendL l wt s now) (sendR L wt s now) := by
  unfold sendL sendR
  split
  · exact h.put _ _
  · exact h
theorem Rel.get {l : LO} {L : L3} (h : Rel l L) {o : Int × Int × Int} (ho : o ∈ L) : getI l o.1 = some o.2 := Mi.getI_of_mem h.keysl (h.1.mem_iff.2 ho)
theorem Rel.has {l : LO} {L : L3} (h : Rel l L) (s : Int) : hasL L s = (getI l s).isSome := by
  cases hg : getI l s with
  | none =>
    have h1 := Mi.getI_none.1 hg
    unfold hasL
    rw [List.any_eq_false.2 (fun p hp => by simp; exact h1 p (h.1.mem_iff.2 hp))]
    rfl
  | some v =>
    unfold hasL
    rw [List.any_eq_true.2 ⟨(s, v), h.1.mem_iff.1 (Mi.getI_mem hg), by simp⟩]
    rfl
theorem Rel.ok {l : LO} {L : L3} (h : Rel l L) (hk : Ok l) : OkL L := fun o ho => hk o (h.1.mem_iff.2 ho)
theorem due_fold (wt tr now : Int) : ∀ (Ls : L3) (q : St) (r : StR), (Ls.map (·.1)).Nodup → q.again = r.again → q.lost = r.lost → Rel q.l r.l → (∀ o ∈ Ls, getI q.l o.1 = some o.2) →
    ((Ls.map (·.1)).foldl (stepD wt tr now) q).again = (Ls.foldl (stepR wt tr now) r).again ∧ ((Ls.map (·.1)).foldl (stepD wt tr now) q).lost = (Ls.foldl (stepR wt tr now) r).lost ∧ Rel ((Ls.map (·.1)).foldl (stepD wt tr now) q).l (Ls.foldl (stepR wt tr now) r).l
  | [], q, r, _, h1, h2, h3, _ => ⟨h1, h2, h3⟩
  | o :: Ls, q, r, hn, h1, h2, h3, hg => by
    rw [List.map_cons, List.nodup_cons] at hn
    have ho := hg o (List.mem_cons_self ..)
    have hat : at0 q.l o.1 = o.2 := by unfold at0; rw [ho]; rfl
    have hne : ∀ p ∈ Ls, p.1 ≠ o.1 := fun p hp e => hn.1 (List.mem_map.2 ⟨p, hp, e⟩)
    rw [List.map_cons, List.foldl_cons, List.foldl_cons]
    have hst : stepD wt tr now q o.1 = (if now < o.2.1 then q else if tr ≤ o.2.2 then ⟨q.again, q.lost ++ [o.1], delI q.l o.1⟩ else ⟨q.again ++ [o.1], q.lost, putI q.l o.1 (now + wt, o.2.2 + 1)⟩) := by unfold stepD; rw [hat]
    rw [hst]
    unfold stepR
    by_cases c1 : now < o.2.1
    · rw [if_pos c1, if_pos c1]
      exact due_fold wt tr now Ls q r hn.2 h1 h2 h3 (fun p hp => hg p (List.mem_cons_of_mem _ hp))
    · rw [if_neg c1, if_neg c1]
      by_cases c2 : tr ≤ o.2.2
      · rw [if_pos c2, if_pos c2]
        refine due_fold wt tr now Ls _ _ hn.2 h1 (by rw [h2]) (h3.del _) (fun p hp => ?_)
        show getI (delI q.l o.1) p.1 = _
        rw [Mi.getI_del h3.keysl, if_neg (hne p hp)]
        exact hg p (List.mem_cons_of_mem _ hp)
      · rw [if_neg c2, if_neg c2]
        refine due_fold wt tr now Ls _ _ hn.2 (by rw [h1]) h2 (h3.put _ _) (fun p hp => ?_)
        show getI (putI q.l o.1 _) p.1 = _
        rw [Mi.getI_put, if_neg (hne p hp)]
        exact hg p (List.mem_cons_of_mem _ hp)
theorem Rel.due {l : LO} {L : L3} (h : Rel l L) (wt tr now : Int) : (dueS wt tr now l).again = (dueR wt tr now L).again ∧ (dueS wt tr now l).lost = (dueR wt tr now L).lost ∧ Rel (dueS wt tr now l).l (dueR wt tr now L).l := by
  unfold dueS dueR
  split
  · rw [h.ks]
    exact due_fold wt tr now L ⟨[], [], l⟩ ⟨[], [], L⟩ h.keys rfl rfl h (fun o ho => h.get ho)
  · exact ⟨rfl, rfl, h⟩
theorem ok_send {l : LO} (hn : (l.map (·.1)).Nodup) (hk : Ok l) {wt s now : Int} (hw : 0 ≤ wt ∧ wt ≤ 1048576) : Ok (sendL l wt s now) := by
  unfold sendL
  split
  · rename_i h
    unfold okS at h
    rw [Bool.and_eq_true] at h
    have h1 := of_decide_eq_true h.1
    have h2 := of_decide_eq_true h.2
    exact ok_put hn hk h1 ⟨⟨by show 0 ≤ now + wt; omega, by show now + wt ≤ _; omega⟩, Int.le_refl _, by show (1 : Int) ≤ 16; decide⟩
  · exact hk
abbrev dA : Kd (Int × Int × Int) := Kd.pair (Kd.int .i64) (Kd.pair (Kd.int .i64) (Kd.int .i64))
abbrev zA : Int × Int × Int := (0, 0, 0)
theorem act_open {w : World} {k x y : Int} {l : List Value} (h : Kd.K dA w (k, x, y) l) : l = [.int .i64 k, .int .i64 x, .int .i64 y] := by
  obtain ⟨c0, d0, rfl, h0, c1, d1, rfl, h1, h2⟩ := h
  subst h0; subst h1
  rw [show d1 = [Value.int .i64 y] from h2]
  rfl
theorem R22_0_l : List.range (regOf Try.f22 0).size = [0, 1] := by kernel_rfl
theorem R22_1_l : List.range (regOf Try.f22 1).size = [0, 1, 2, 3, 4, 5, 6, 7, 8, 9, 10, 11, 12, 13] := by kernel_rfl
theorem R22_2_l : List.range (regOf Try.f22 2).size = [0, 1] := by kernel_rfl
theorem R22_3_l : List.range (regOf Try.f22 3).size = [0, 1, 2, 3, 4, 5, 6] := by kernel_rfl
theorem body22 : Try.f22.body = some (.seq (.region 0 (regOf Try.f22 0) false) (.seq (.seq (.region 1 (regOf Try.f22 1) false) (.cond (Operand.tmp 19) (.seq (.region 2 (regOf Try.f22 2) false) (.ret)) (.skip))) (.seq (.region 3 (regOf Try.f22 3) false) (.ret)))) := by kernel_rfl
theorem p22_0_0 : pj (regOf Try.f22 0) 0 = some (some 4, .assign (.const (.pointer none)), 56, none) := by kernel_rfl
theorem p22_0_1 : pj (regOf Try.f22 0) 1 = some (some 5, .assign (.const (.int .i64 0)), 30, none) := by kernel_rfl
theorem p22_1_0 : pj (regOf Try.f22 1) 0 = some (some 6, .move (.tmp 0), 3, none) := by kernel_rfl
theorem p22_1_1 : pj (regOf Try.f22 1) 1 = some (some 7, .binOp .lss 3 (.tmp 6) (.const (.int .i64 1)) 3, 4, none) := by kernel_rfl
theorem p22_1_2 : pj (regOf Try.f22 1) 2 = some (some 8, .move (.tmp 7), 4, none) := by kernel_rfl
theorem p22_1_3 : pj (regOf Try.f22 1) 3 = some (some 9, .move (.tmp 0), 3, some (2, false)) := by kernel_rfl
theorem g22_1_2 : dstOf (regOf Try.f22 1) 2 = some 8 := by kernel_rfl
theorem p22_1_4 : pj (regOf Try.f22 1) 4 = some (some 10, .binOp .gtr 3 (.tmp 9) (.const (.int .i64 1048576)) 3, 4, some (2, false)) := by kernel_rfl
theorem p22_1_5 : pj (regOf Try.f22 1) 5 = some (some 11, .pick (.tmp 8) (.const (.bool true)) (.tmp 10), 4, none) := by kernel_rfl
theorem p22_1_6 : pj (regOf Try.f22 1) 6 = some (some 12, .move (.tmp 11), 4, none) := by kernel_rfl
theorem p22_1_7 : pj (regOf Try.f22 1) 7 = some (some 13, .move (.tmp 1), 3, some (6, false)) := by kernel_rfl
theorem g22_1_6 : dstOf (regOf Try.f22 1) 6 = some 12 := by kernel_rfl
theorem p22_1_8 : pj (regOf Try.f22 1) 8 = some (some 14, .binOp .lss 3 (.tmp 13) (.const (.int .i64 1)) 3, 4, some (6, false)) := by kernel_rfl
theorem p22_1_9 : pj (regOf Try.f22 1) 9 = some (some 15, .pick (.tmp 12) (.const (.bool true)) (.tmp 14), 4, none) := by kernel_rfl
theorem p22_1_10 : pj (regOf Try.f22 1) 10 = some (some 16, .move (.tmp 15), 4, none) := by kernel_rfl
theorem p22_1_11 : pj (regOf Try.f22 1) 11 = some (some 17, .move (.tmp 1), 3, some (10, false)) := by kernel_rfl
theorem g22_1_10 : dstOf (regOf Try.f22 1) 10 = some 16 := by kernel_rfl
theorem p22_1_12 : pj (regOf Try.f22 1) 12 = some (some 18, .binOp .gtr 3 (.tmp 17) (.const (.int .i64 16)) 3, 4, some (10, false)) := by kernel_rfl
theorem p22_1_13 : pj (regOf Try.f22 1) 13 = some (some 19, .pick (.tmp 16) (.const (.bool true)) (.tmp 18), 4, none) := by kernel_rfl
theorem p22_2_0 : pj (regOf Try.f22 2) 0 = some (some 4, .assign (.const (.pointer none)), 56, none) := by kernel_rfl
theorem p22_2_1 : pj (regOf Try.f22 2) 1 = some (some 5, .assign (.const (.int .i64 1)), 30, none) := by kernel_rfl
set_option maxHeartbeats 4000000 in
theorem new_no (x y : Int) (hok : ¬ ((1 ≤ x ∧ x ≤ 1048576) ∧ 1 ≤ y ∧ y ≤ 16)) (w : World) : Calls Try.prog 22 #[.int .i64 x, .int .i64 y] w fun e w' => e = .returned (.tuple #[.pointer none, .int .i64 1]) ∧ Kp w w' (fun _ => False) := by
  have K_0 := Kp.refl w (fun _ => False)
  refine enter (args := [Value.int .i64 x, Value.int .i64 y]) (n := 25) Try.func22 body22 rfl rfl rfl ?_
  intro a hE
  refine c_reg R22_0_l ?_
  refine q0 p22_0_0 hE (st_assign rfl) ?_
  clear hE a; intro a hE
  refine q0 p22_0_1 hE (st_assign rfl) ?_
  clear hE a; intro a hE
  refine p_nil ?_
  refine x_norm ?_
  refine wp_seq ?_
  rcases Decidable.em (x < 1) with hN1 | hN1
  ·
    refine c_reg R22_1_l ?_
    refine q0 p22_1_0 hE (st_move rfl) ?_
    clear hE a; intro a hE
    refine q0 p22_1_1 hE (st_lss (b := true) rfl rfl (decide_eq_true hN1)) ?_
    clear hE a; intro a hE
    refine q0 p22_1_2 hE (st_move rfl) ?_
    clear hE a; intro a hE
    refine p_cons (s_skip p22_1_3 hE (wn_some g22_1_2 rfl rfl) rfl ?_)
    clear hE a; intro a hE
    refine p_cons (s_skip p22_1_4 hE (wn_some g22_1_2 rfl rfl) rfl ?_)
    clear hE a; intro a hE
    refine q0 p22_1_5 hE (st_pick rfl rfl) ?_
    clear hE a; intro a hE
    refine q0 p22_1_6 hE (st_move rfl) ?_
    clear hE a; intro a hE
    refine p_cons (s_skip p22_1_7 hE (wn_some g22_1_6 rfl rfl) rfl ?_)
    clear hE a; intro a hE
    refine p_cons (s_skip p22_1_8 hE (wn_some g22_1_6 rfl rfl) rfl ?_)
    clear hE a; intro a hE
    refine q0 p22_1_9 hE (st_pick rfl rfl) ?_
    clear hE a; intro a hE
    refine q0 p22_1_10 hE (st_move rfl) ?_
    clear hE a; intro a hE
    refine p_cons (s_skip p22_1_11 hE (wn_some g22_1_10 rfl rfl) rfl ?_)
    clear hE a; intro a hE
    refine p_cons (s_skip p22_1_12 hE (wn_some g22_1_10 rfl rfl) rfl ?_)
    clear hE a; intro a hE
    refine q0 p22_1_13 hE (st_pick rfl rfl) ?_
    clear hE a; intro a hE
    refine p_nil ?_
    refine x_norm ?_
    refine c_cond (t := true) hE rfl ?_
    refine c_reg R22_2_l ?_
    refine q0 p22_2_0 hE (st_assign rfl) ?_
    clear hE a; intro a hE
    refine q0 p22_2_1 hE (st_assign rfl) ?_
    clear hE a; intro a hE
    refine p_nil ?_
    refine x_norm ?_
    refine wp_ret ?_
    refine x_ret ?_
    refine ret_list (rs := [.tmp 4, .tmp 5]) (vs := [Value.pointer none, Value.int .i64 1]) rfl hE (.tmp rfl (.tmp rfl .nil)) rfl ?_
    exact ⟨rfl, K_0⟩
  ·
    rcases Decidable.em (1048576 < x) with hN2 | hN2
    ·
      refine c_reg R22_1_l ?_
      refine q0 p22_1_0 hE (st_move rfl) ?_
      clear hE a; intro a hE
      refine q0 p22_1_1 hE (st_lss (b := false) rfl rfl (decide_eq_false hN1)) ?_
      clear hE a; intro a hE
      refine q0 p22_1_2 hE (st_move rfl) ?_
      clear hE a; intro a hE
      refine p_cons (s_still p22_1_3 hE (wn_some g22_1_2 rfl rfl) rfl (st_move rfl) ?_)
      clear hE a; intro a hE
      refine p_cons (s_still p22_1_4 hE (wn_some g22_1_2 rfl rfl) rfl (st_gtr (b := true) rfl rfl (decide_eq_true hN2)) ?_)
      clear hE a; intro a hE
      refine q0 p22_1_5 hE (st_pick rfl rfl) ?_
      clear hE a; intro a hE
      refine q0 p22_1_6 hE (st_move rfl) ?_
      clear hE a; intro a hE
      refine p_cons (s_skip p22_1_7 hE (wn_some g22_1_6 rfl rfl) rfl ?_)
      clear hE a; intro a hE
      refine p_cons (s_skip p22_1_8 hE (wn_some g22_1_6 rfl rfl) rfl ?_)
      clear hE a; intro a hE
      refine q0 p22_1_9 hE (st_pick rfl rfl) ?_
      clear hE a; intro a hE
      refine q0 p22_1_10 hE (st_move rfl) ?_
      clear hE a; intro a hE
      refine p_cons (s_skip p22_1_11 hE (wn_some g22_1_10 rfl rfl) rfl ?_)
      clear hE a; intro a hE
      refine p_cons (s_skip p22_1_12 hE (wn_some g22_1_10 rfl rfl) rfl ?_)
      clear hE a; intro a hE
      refine q0 p22_1_13 hE (st_pick rfl rfl) ?_
      clear hE a; intro a hE
      refine p_nil ?_
      refine x_norm ?_
      refine c_cond (t := true) hE rfl ?_
      refine c_reg R22_2_l ?_
      refine q0 p22_2_0 hE (st_assign rfl) ?_
      clear hE a; intro a hE
      refine q0 p22_2_1 hE (st_assign rfl) ?_
      clear hE a; intro a hE
      refine p_nil ?_
      refine x_norm ?_
      refine wp_ret ?_
      refine x_ret ?_
      refine ret_list (rs := [.tmp 4, .tmp 5]) (vs := [Value.pointer none, Value.int .i64 1]) rfl hE (.tmp rfl (.tmp rfl .nil)) rfl ?_
      exact ⟨rfl, K_0⟩
    ·
      rcases Decidable.em (y < 1) with hN3 | hN3
      ·
        refine c_reg R22_1_l ?_
        refine q0 p22_1_0 hE (st_move rfl) ?_
        clear hE a; intro a hE
        refine q0 p22_1_1 hE (st_lss (b := false) rfl rfl (decide_eq_false hN1)) ?_
        clear hE a; intro a hE
        refine q0 p22_1_2 hE (st_move rfl) ?_
        clear hE a; intro a hE
        refine p_cons (s_still p22_1_3 hE (wn_some g22_1_2 rfl rfl) rfl (st_move rfl) ?_)
        clear hE a; intro a hE
        refine p_cons (s_still p22_1_4 hE (wn_some g22_1_2 rfl rfl) rfl (st_gtr (b := false) rfl rfl (decide_eq_false hN2)) ?_)
        clear hE a; intro a hE
        refine q0 p22_1_5 hE (st_pick rfl rfl) ?_
        clear hE a; intro a hE
        refine q0 p22_1_6 hE (st_move rfl) ?_
        clear hE a; intro a hE
        refine p_cons (s_still p22_1_7 hE (wn_some g22_1_6 rfl rfl) rfl (st_move rfl) ?_)
        clear hE a; intro a hE
        refine p_cons (s_still p22_1_8 hE (wn_some g22_1_6 rfl rfl) rfl (st_lss (b := true) rfl rfl (decide_eq_true hN3)) ?_)
        clear hE a; intro a hE
        refine q0 p22_1_9 hE (st_pick rfl rfl) ?_
        clear hE a; intro a hE
        refine q0 p22_1_10 hE (st_move rfl) ?_
        clear hE a; intro a hE
        refine p_cons (s_skip p22_1_11 hE (wn_some g22_1_10 rfl rfl) rfl ?_)
        clear hE a; intro a hE
        refine p_cons (s_skip p22_1_12 hE (wn_some g22_1_10 rfl rfl) rfl ?_)
        clear hE a; intro a hE
        refine q0 p22_1_13 hE (st_pick rfl rfl) ?_
        clear hE a; intro a hE
        refine p_nil ?_
        refine x_norm ?_
        refine c_cond (t := true) hE rfl ?_
        refine c_reg R22_2_l ?_
        refine q0 p22_2_0 hE (st_assign rfl) ?_
        clear hE a; intro a hE
        refine q0 p22_2_1 hE (st_assign rfl) ?_
        clear hE a; intro a hE
        refine p_nil ?_
        refine x_norm ?_
        refine wp_ret ?_
        refine x_ret ?_
        refine ret_list (rs := [.tmp 4, .tmp 5]) (vs := [Value.pointer none, Value.int .i64 1]) rfl hE (.tmp rfl (.tmp rfl .nil)) rfl ?_
        exact ⟨rfl, K_0⟩
      ·
        refine c_reg R22_1_l ?_
        refine q0 p22_1_0 hE (st_move rfl) ?_
        clear hE a; intro a hE
        refine q0 p22_1_1 hE (st_lss (b := false) rfl rfl (decide_eq_false hN1)) ?_
        clear hE a; intro a hE
        refine q0 p22_1_2 hE (st_move rfl) ?_
        clear hE a; intro a hE
        refine p_cons (s_still p22_1_3 hE (wn_some g22_1_2 rfl rfl) rfl (st_move rfl) ?_)
        clear hE a; intro a hE
        refine p_cons (s_still p22_1_4 hE (wn_some g22_1_2 rfl rfl) rfl (st_gtr (b := false) rfl rfl (decide_eq_false hN2)) ?_)
        clear hE a; intro a hE
        refine q0 p22_1_5 hE (st_pick rfl rfl) ?_
        clear hE a; intro a hE
        refine q0 p22_1_6 hE (st_move rfl) ?_
        clear hE a; intro a hE
        refine p_cons (s_still p22_1_7 hE (wn_some g22_1_6 rfl rfl) rfl (st_move rfl) ?_)
        clear hE a; intro a hE
        refine p_cons (s_still p22_1_8 hE (wn_some g22_1_6 rfl rfl) rfl (st_lss (b := false) rfl rfl (decide_eq_false hN3)) ?_)
        clear hE a; intro a hE
        refine q0 p22_1_9 hE (st_pick rfl rfl) ?_
        clear hE a; intro a hE
        refine q0 p22_1_10 hE (st_move rfl) ?_
        clear hE a; intro a hE
        refine p_cons (s_still p22_1_11 hE (wn_some g22_1_10 rfl rfl) rfl (st_move rfl) ?_)
        clear hE a; intro a hE
        refine p_cons (s_still p22_1_12 hE (wn_some g22_1_10 rfl rfl) rfl (st_gtr (b := true) rfl rfl (decide_eq_true (by omega))) ?_)
        clear hE a; intro a hE
        refine q0 p22_1_13 hE (st_pick rfl rfl) ?_
        clear hE a; intro a hE
        refine p_nil ?_
        refine x_norm ?_
        refine c_cond (t := true) hE rfl ?_
        refine c_reg R22_2_l ?_
        refine q0 p22_2_0 hE (st_assign rfl) ?_
        clear hE a; intro a hE
        refine q0 p22_2_1 hE (st_assign rfl) ?_
        clear hE a; intro a hE
        refine p_nil ?_
        refine x_norm ?_
        refine wp_ret ?_
        refine x_ret ?_
        refine ret_list (rs := [.tmp 4, .tmp 5]) (vs := [Value.pointer none, Value.int .i64 1]) rfl hE (.tmp rfl (.tmp rfl .nil)) rfl ?_
        exact ⟨rfl, K_0⟩
theorem due_len (wt tr now : Int) : ∀ (ks : List Int) (q : St), (ks.foldl (stepD wt tr now) q).again.length ≤ q.again.length + ks.length ∧ (ks.foldl (stepD wt tr now) q).lost.length ≤ q.lost.length + ks.length
  | [], q => ⟨Nat.le_refl _, Nat.le_refl _⟩
  | k :: ks, q => by
    rw [List.foldl_cons]
    obtain ⟨h1, h2⟩ := due_len wt tr now ks (stepD wt tr now q k)
    have h3 : (stepD wt tr now q k).again.length ≤ q.again.length + 1 ∧ (stepD wt tr now q k).lost.length ≤ q.lost.length + 1 := by
      unfold stepD
      split
      · exact ⟨Nat.le_succ _, Nat.le_succ _⟩
      · split
        · exact ⟨Nat.le_succ _, by show (q.lost ++ [k]).length ≤ _; rw [List.length_append]; exact Nat.le_refl _⟩
        · exact ⟨by show (q.again ++ [k]).length ≤ _; rw [List.length_append]; exact Nat.le_refl _, Nat.le_succ _⟩
    rw [List.length_cons]
    omega
theorem due_len2 (wt tr now : Int) (l : LO) : (dueS wt tr now l).again.length ≤ l.length ∧ (dueS wt tr now l).lost.length ≤ l.length := by
  unfold dueS
  split
  · have := due_len wt tr now (Ms.ks l) ⟨[], [], l⟩
    rw [Ms.ks_len] at this
    simpa using this
  · exact ⟨Nat.zero_le _, Nat.zero_le _⟩
theorem R7_0_l : List.range (regOf Try.f7 0).size = [0] := by kernel_rfl
theorem R7_1_l : List.range (regOf Try.f7 1).size = [0, 1, 2, 3, 4, 5, 6, 7] := by kernel_rfl
theorem R7_2_l : List.range (regOf Try.f7 2).size = [0, 1, 2, 3, 4, 5, 6, 7, 8, 9, 10, 11, 12, 13] := by kernel_rfl
theorem R7_3_l : List.range (regOf Try.f7 3).size = [0, 1, 2, 3, 4, 5, 6, 7, 8, 9] := by kernel_rfl
theorem R7_4_l : List.range (regOf Try.f7 4).size = [0, 1, 2, 3, 4, 5] := by kernel_rfl
theorem R7_5_l : List.range (regOf Try.f7 5).size = [0] := by kernel_rfl
theorem R7_6_l : List.range (regOf Try.f7 6).size = [0, 1, 2, 3, 4] := by kernel_rfl
theorem R7_7_l : List.range (regOf Try.f7 7).size = [0] := by kernel_rfl
theorem R7_8_l : List.range (regOf Try.f7 8).size = [0, 1, 2, 3, 4, 5, 6, 7] := by kernel_rfl
theorem R7_10_l : List.range (regOf Try.f7 10).size = [0, 1, 2, 3, 4, 5] := by kernel_rfl
theorem R7_11_l : List.range (regOf Try.f7 11).size = [0] := by kernel_rfl
theorem R7_12_l : List.range (regOf Try.f7 12).size = [0, 1, 2, 3] := by kernel_rfl
theorem R7_15_l : List.range (regOf Try.f7 15).size = [0, 1] := by kernel_rfl
theorem R7_16_l : List.range (regOf Try.f7 16).size = [0, 1, 2, 3, 4, 5, 6, 7, 8, 9, 10, 11, 12, 13] := by kernel_rfl
theorem R7_17_l : List.range (regOf Try.f7 17).size = [0, 1] := by kernel_rfl
theorem R7_18_l : List.range (regOf Try.f7 18).size = [0, 1, 2, 3, 4, 5, 6, 7, 8, 9] := by kernel_rfl
theorem R7_19_l : List.range (regOf Try.f7 19).size = [0, 1] := by kernel_rfl
theorem R7_20_l : List.range (regOf Try.f7 20).size = [0, 1, 2, 3, 4, 5, 6, 7, 8] := by kernel_rfl
theorem R7_21_l : List.range (regOf Try.f7 21).size = [0, 1, 2, 3, 4, 5, 6, 7, 8] := by kernel_rfl
theorem R7_22_l : List.range (regOf Try.f7 22).size = [0, 1, 2, 3, 4, 5, 6, 7, 8] := by kernel_rfl
theorem R7_13_l : List.range (regOf Try.f7 13).size = [0, 1] := by kernel_rfl
theorem R7_14_l : List.range (regOf Try.f7 14).size = [0, 1, 2, 3] := by kernel_rfl
theorem R7_23_l : List.range (regOf Try.f7 23).size = [0, 1, 2] := by kernel_rfl
theorem R7_24_l : List.range (regOf Try.f7 24).size = [0, 1, 2, 3, 4, 5, 6, 7, 8, 9, 10, 11] := by kernel_rfl
theorem R7_25_l : List.range (regOf Try.f7 25).size = [0] := by kernel_rfl
theorem R7_26_l : List.range (regOf Try.f7 26).size = [0] := by kernel_rfl
theorem R7_27_l : List.range (regOf Try.f7 27).size = [0, 1, 2, 3] := by kernel_rfl
theorem R7_29_l : List.range (regOf Try.f7 29).size = [0, 1, 2, 3, 4, 5, 6, 7, 8, 9, 10, 11, 12] := by kernel_rfl
theorem R7_30_l : List.range (regOf Try.f7 30).size = [0] := by kernel_rfl
theorem R7_28_l : List.range (regOf Try.f7 28).size = [0, 1, 2] := by kernel_rfl
theorem R7_9_l : List.range (regOf Try.f7 9).size = [0, 1, 2] := by kernel_rfl
theorem R7_31_l : List.range (regOf Try.f7 31).size = [0, 1] := by kernel_rfl
theorem body7 : Try.f7.body = some (.seq (.region 0 (regOf Try.f7 0) false) (.seq (.region 1 (regOf Try.f7 1) false) (.seq (.seq (.region 2 (regOf Try.f7 2) false) (.cond (Operand.tmp 38) (.seq (.region 3 (regOf Try.f7 3) false) (.ret)) (.skip))) (.seq (.seq (.region 4 (regOf Try.f7 4) false) (.cond (Operand.tmp 53) (.seq (.region 5 (regOf Try.f7 5) false) (.ret)) (.skip))) (.seq (.region 6 (regOf Try.f7 6) false) (.seq (.seq (.region 7 (regOf Try.f7 7) false) (.block 0 (.loop (.seq (.seq (.region 8 (regOf Try.f7 8) false) (.cond (Operand.tmp 65) (.skip) (.exit 0))) (.seq (.block 1 (.seq (.region 10 (regOf Try.f7 10) false) (.seq (.region 11 (regOf Try.f7 11) false) (.seq (.seq (.region 12 (regOf Try.f7 12) false) (.block 2 (.seq (.region 15 (regOf Try.f7 15) false) (.cond (Operand.tmp 81) (.region 16 (regOf Try.f7 16) true) (.seq (.region 17 (regOf Try.f7 17) false) (.cond (Operand.tmp 96) (.region 18 (regOf Try.f7 18) true) (.seq (.region 19 (regOf Try.f7 19) false) (.cond (Operand.tmp 107) (.seq (.region 20 (regOf Try.f7 20) false) (.seq (.region 21 (regOf Try.f7 21) false) (.region 22 (regOf Try.f7 22) false))) (.seq (.region 13 (regOf Try.f7 13) false) (.region 14 (regOf Try.f7 14) false)))))))))) (.seq (.region 23 (regOf Try.f7 23) false) (.seq (.seq (.region 24 (regOf Try.f7 24) false) (.cond (Operand.tmp 144) (.seq (.region 25 (regOf Try.f7 25) false) (.ret)) (.skip))) (.seq (.region 26 (regOf Try.f7 26) false) (.block 3 (.loop (.seq (.seq (.region 27 (regOf Try.f7 27) false) (.cond (Operand.tmp 148) (.skip) (.exit 3))) (.seq (.block 4 (.seq (.region 29 (regOf Try.f7 29) true) (.cond (Operand.tmp 163) (.seq (.region 30 (regOf Try.f7 30) false) (.ret)) (.skip)))) (.region 28 (regOf Try.f7 28) false)))))))))))) (.region 9 (regOf Try.f7 9) false)))))) (.seq (.region 31 (regOf Try.f7 31) false) (.ret)))))))) := by kernel_rfl
theorem p7_0_0 : pj (regOf Try.f7 0) 0 = some (some 6, .assign (.const (.bool false)), 4, none) := by kernel_rfl
theorem p7_1_0 : pj (regOf Try.f7 1) 0 = some (some 20, .move (.tmp 0), 3, none) := by kernel_rfl
theorem p7_1_1 : pj (regOf Try.f7 1) 1 = some (some 21, .move (.tmp 1), 3, none) := by kernel_rfl
theorem p7_1_2 : pj (regOf Try.f7 1) 2 = some (some 22, .call { callee := .value (.func 22), args := #[.tmp 20, .tmp 21], argTypes := #[3, 3] }, 57, none) := by kernel_rfl
theorem cl22 : callable Try.f22 = true := by kernel_rfl
theorem p7_1_3 : pj (regOf Try.f7 1) 3 = some (some 19, .move (.tmp 22), 57, none) := by kernel_rfl
theorem p7_1_4 : pj (regOf Try.f7 1) 4 = some (some 23, .extract (.tmp 19) 0, 56, none) := by kernel_rfl
theorem p7_1_5 : pj (regOf Try.f7 1) 5 = some (some 24, .extract (.tmp 19) 1, 30, none) := by kernel_rfl
theorem p7_1_6 : pj (regOf Try.f7 1) 6 = some (some 7, .assign (.tmp 23), 56, none) := by kernel_rfl
theorem p7_1_7 : pj (regOf Try.f7 1) 7 = some (some 8, .assign (.tmp 24), 30, none) := by kernel_rfl
theorem p7_2_0 : pj (regOf Try.f7 2) 0 = some (some 25, .move (.tmp 0), 3, none) := by kernel_rfl
theorem p7_2_1 : pj (regOf Try.f7 2) 1 = some (some 26, .binOp .lss 3 (.tmp 25) (.const (.int .i64 1)) 3, 4, none) := by kernel_rfl
theorem p7_2_2 : pj (regOf Try.f7 2) 2 = some (some 27, .move (.tmp 26), 4, none) := by kernel_rfl
theorem p7_2_3 : pj (regOf Try.f7 2) 3 = some (some 28, .move (.tmp 0), 3, some (2, false)) := by kernel_rfl
theorem g7_2_2 : dstOf (regOf Try.f7 2) 2 = some 27 := by kernel_rfl
theorem p7_2_4 : pj (regOf Try.f7 2) 4 = some (some 29, .binOp .gtr 3 (.tmp 28) (.const (.int .i64 1048576)) 3, 4, some (2, false)) := by kernel_rfl
theorem p7_2_5 : pj (regOf Try.f7 2) 5 = some (some 30, .pick (.tmp 27) (.const (.bool true)) (.tmp 29), 4, none) := by kernel_rfl
theorem p7_2_6 : pj (regOf Try.f7 2) 6 = some (some 31, .move (.tmp 30), 4, none) := by kernel_rfl
theorem p7_2_7 : pj (regOf Try.f7 2) 7 = some (some 32, .move (.tmp 1), 3, some (6, false)) := by kernel_rfl
theorem g7_2_6 : dstOf (regOf Try.f7 2) 6 = some 31 := by kernel_rfl
theorem p7_2_8 : pj (regOf Try.f7 2) 8 = some (some 33, .binOp .lss 3 (.tmp 32) (.const (.int .i64 1)) 3, 4, some (6, false)) := by kernel_rfl
theorem p7_2_9 : pj (regOf Try.f7 2) 9 = some (some 34, .pick (.tmp 31) (.const (.bool true)) (.tmp 33), 4, none) := by kernel_rfl
theorem p7_2_10 : pj (regOf Try.f7 2) 10 = some (some 35, .move (.tmp 34), 4, none) := by kernel_rfl
theorem p7_2_11 : pj (regOf Try.f7 2) 11 = some (some 36, .move (.tmp 1), 3, some (10, false)) := by kernel_rfl
theorem g7_2_10 : dstOf (regOf Try.f7 2) 10 = some 35 := by kernel_rfl
theorem p7_2_12 : pj (regOf Try.f7 2) 12 = some (some 37, .binOp .gtr 3 (.tmp 36) (.const (.int .i64 16)) 3, 4, some (10, false)) := by kernel_rfl
theorem p7_2_13 : pj (regOf Try.f7 2) 13 = some (some 38, .pick (.tmp 35) (.const (.bool true)) (.tmp 37), 4, none) := by kernel_rfl
theorem p7_4_0 : pj (regOf Try.f7 4) 0 = some (some 48, .move (.tmp 8), 30, none) := by kernel_rfl
theorem p7_4_1 : pj (regOf Try.f7 4) 1 = some (some 49, .binOp .neq 30 (.tmp 48) (.const (.int .i64 0)) 30, 4, none) := by kernel_rfl
theorem p7_4_2 : pj (regOf Try.f7 4) 2 = some (some 50, .move (.tmp 49), 4, none) := by kernel_rfl
theorem p7_4_3 : pj (regOf Try.f7 4) 3 = some (some 51, .move (.tmp 7), 56, some (2, false)) := by kernel_rfl
theorem g7_4_2 : dstOf (regOf Try.f7 4) 2 = some 50 := by kernel_rfl
theorem p7_4_4 : pj (regOf Try.f7 4) 4 = some (some 52, .binOp .eql 56 (.tmp 51) (.const (.pointer none)) 56, 4, some (2, false)) := by kernel_rfl
theorem tP56 : Try.prog.underlying 56 = some (.pointer (Try.prog.pointee 56)) := by kernel_rfl
theorem p7_4_5 : pj (regOf Try.f7 4) 5 = some (some 53, .pick (.tmp 50) (.const (.bool true)) (.tmp 52), 4, none) := by kernel_rfl
theorem p7_6_0 : pj (regOf Try.f7 6) 0 = some (some 54, .move (.tmp 0), 3, none) := by kernel_rfl
theorem p7_6_1 : pj (regOf Try.f7 6) 1 = some (some 55, .move (.tmp 1), 3, none) := by kernel_rfl
theorem p7_6_2 : pj (regOf Try.f7 6) 2 = some (some 56, .build 66 #[(0, .tmp 54), (1, .tmp 55)], 66, none) := by kernel_rfl
theorem p7_6_3 : pj (regOf Try.f7 6) 3 = some (some 57, .box 66 (.tmp 56), 63, none) := by kernel_rfl
theorem p7_6_4 : pj (regOf Try.f7 6) 4 = some (some 9, .assign (.tmp 57), 63, none) := by kernel_rfl
theorem p7_7_0 : pj (regOf Try.f7 7) 0 = some (some 10, .assign (.const (.int .i64 0)), 3, none) := by kernel_rfl
theorem p7_8_0 : pj (regOf Try.f7 8) 0 = some (some 58, .move (.tmp 10), 3, none) := by kernel_rfl
theorem p7_8_1 : pj (regOf Try.f7 8) 1 = some (some 59, .move (.tmp 2), 62, none) := by kernel_rfl
theorem p7_8_2 : pj (regOf Try.f7 8) 2 = some (some 60, .call { callee := .builtin .len, args := #[.tmp 59], argTypes := #[62] }, 3, none) := by kernel_rfl
theorem p7_8_3 : pj (regOf Try.f7 8) 3 = some (some 61, .binOp .lss 3 (.tmp 58) (.tmp 60) 3, 4, none) := by kernel_rfl
theorem p7_8_4 : pj (regOf Try.f7 8) 4 = some (some 62, .move (.tmp 61), 4, none) := by kernel_rfl
theorem p7_8_5 : pj (regOf Try.f7 8) 5 = some (some 63, .move (.tmp 10), 3, some (4, true)) := by kernel_rfl
theorem g7_8_4 : dstOf (regOf Try.f7 8) 4 = some 62 := by kernel_rfl
theorem p7_8_6 : pj (regOf Try.f7 8) 6 = some (some 64, .binOp .lss 3 (.tmp 63) (.const (.int .i64 60)) 3, 4, some (4, true)) := by kernel_rfl
theorem p7_8_7 : pj (regOf Try.f7 8) 7 = some (some 65, .pick (.tmp 62) (.tmp 64) (.const (.bool false)), 4, none) := by kernel_rfl
theorem p7_10_0 : pj (regOf Try.f7 10) 0 = some (some 68, .move (.tmp 2), 62, none) := by kernel_rfl
theorem p7_10_1 : pj (regOf Try.f7 10) 1 = some (some 69, .move (.tmp 10), 3, none) := by kernel_rfl
theorem p7_10_2 : pj (regOf Try.f7 10) 2 = some (some 70, .indexAddr 62 (.tmp 68) (.tmp 69), 0, none) := by kernel_rfl
theorem tS68 : (Try.prog.info? 68).map (·.size) = some 3 := by kernel_rfl
theorem p7_10_3 : pj (regOf Try.f7 10) 3 = some (some 71, .load 68 (.tmp 70), 68, none) := by kernel_rfl
theorem tA68 : (Try.prog.underlying 68).map aggD = some true := by kernel_rfl
theorem p7_10_4 : pj (regOf Try.f7 10) 4 = some (some 11, .alloc 68, 0, none) := by kernel_rfl
theorem tZ68 : (Try.prog.info? 68).bind (·.zero) = some (Value.agg #[Value.int .i64 0, Value.int .i64 0, Value.int .i64 0]) := by kernel_rfl
theorem p7_10_5 : pj (regOf Try.f7 10) 5 = some (none, .store 68 (.tmp 11) (.tmp 71), 0, none) := by kernel_rfl
theorem p7_11_0 : pj (regOf Try.f7 11) 0 = some (some 12, .assign (.const (.bool true)), 4, none) := by kernel_rfl
theorem p7_12_0 : pj (regOf Try.f7 12) 0 = some (some 72, .fieldAddr 68 (.tmp 11) 0, 0, none) := by kernel_rfl
theorem tS3 : (Try.prog.info? 3).map (·.size) = some 1 := by kernel_rfl
theorem p7_12_1 : pj (regOf Try.f7 12) 1 = some (some 73, .load 3 (.tmp 72), 3, none) := by kernel_rfl
theorem tA3 : (Try.prog.underlying 3).map aggD = some false := by kernel_rfl
theorem p7_12_2 : pj (regOf Try.f7 12) 2 = some (some 74, .convert 3 23 (.tmp 73), 23, none) := by kernel_rfl
theorem p7_12_3 : pj (regOf Try.f7 12) 3 = some (some 75, .binOp .rem 23 (.tmp 74) (.const (.int .u64 4)) 23, 23, none) := by kernel_rfl
theorem p7_15_0 : pj (regOf Try.f7 15) 0 = some (some 82, .binOp .eql 23 (.tmp 75) (.const (.int .u64 0)) 23, 4, none) := by kernel_rfl
theorem p7_15_1 : pj (regOf Try.f7 15) 1 = some (some 81, .assign (.tmp 82), 4, none) := by kernel_rfl
theorem ns7_16 : Region.noSelect (regOf Try.f7 16) = true := by kernel_rfl
theorem p7_16_0 : pj (regOf Try.f7 16) 0 = some (some 83, .move (.tmp 7), 56, none) := by kernel_rfl
theorem p7_16_1 : pj (regOf Try.f7 16) 1 = some (some 84, .fieldAddr 68 (.tmp 11) 1, 0, none) := by kernel_rfl
theorem p7_16_2 : pj (regOf Try.f7 16) 2 = some (some 85, .load 3 (.tmp 84), 3, none) := by kernel_rfl
theorem p7_16_3 : pj (regOf Try.f7 16) 3 = some (some 86, .fieldAddr 68 (.tmp 11) 2, 0, none) := by kernel_rfl
theorem p7_16_4 : pj (regOf Try.f7 16) 4 = some (some 87, .load 3 (.tmp 86), 3, none) := by kernel_rfl
theorem p7_16_6 : pj (regOf Try.f7 16) 6 = some (some 89, .move (.tmp 9), 63, none) := by kernel_rfl
theorem p7_16_7 : pj (regOf Try.f7 16) 7 = some (some 90, .fieldAddr 68 (.tmp 11) 1, 0, none) := by kernel_rfl
theorem p7_16_8 : pj (regOf Try.f7 16) 8 = some (some 91, .load 3 (.tmp 90), 3, none) := by kernel_rfl
theorem p7_16_9 : pj (regOf Try.f7 16) 9 = some (some 92, .fieldAddr 68 (.tmp 11) 2, 0, none) := by kernel_rfl
theorem p7_16_10 : pj (regOf Try.f7 16) 10 = some (some 93, .load 3 (.tmp 92), 3, none) := by kernel_rfl
theorem p7_16_5 : pj (regOf Try.f7 16) 5 = some (some 88, .call { callee := .value (.func 23), args := #[.tmp 83, .tmp 85, .tmp 87], argTypes := #[56, 3, 3] }, 30, none) := by kernel_rfl
theorem cl23 : callable Try.f23 = true := by kernel_rfl
theorem p7_16_11 : pj (regOf Try.f7 16) 11 = some (some 94, .call { callee := .value (.func 28), args := #[.tmp 89, .tmp 91, .tmp 93], argTypes := #[63, 3, 3] }, 3, none) := by kernel_rfl
theorem cl28 : callable Try.f28 = true := by kernel_rfl
theorem p7_16_12 : pj (regOf Try.f7 16) 12 = some (some 95, .binOp .eql 3 (.tmp 88) (.tmp 94) 3, 4, none) := by kernel_rfl
theorem p7_16_13 : pj (regOf Try.f7 16) 13 = some (some 12, .assign (.tmp 95), 4, none) := by kernel_rfl
theorem p7_23_0 : pj (regOf Try.f7 23) 0 = some (some 131, .move (.tmp 7), 56, none) := by kernel_rfl
theorem p7_23_1 : pj (regOf Try.f7 23) 1 = some (some 132, .call { callee := .value (.func 26), args := #[.tmp 131], argTypes := #[56] }, 35, none) := by kernel_rfl
theorem cl26 : callable Try.f26 = true := by kernel_rfl
theorem p7_23_2 : pj (regOf Try.f7 23) 2 = some (some 17, .assign (.tmp 132), 35, none) := by kernel_rfl
theorem p7_24_0 : pj (regOf Try.f7 24) 0 = some (some 133, .move (.tmp 12), 4, none) := by kernel_rfl
theorem p7_24_1 : pj (regOf Try.f7 24) 1 = some (some 134, .unOp .not 4 (.tmp 133), 4, none) := by kernel_rfl
theorem p7_24_2 : pj (regOf Try.f7 24) 2 = some (some 135, .move (.tmp 134), 4, none) := by kernel_rfl
theorem p7_24_3 : pj (regOf Try.f7 24) 3 = some (some 136, .move (.tmp 17), 35, some (2, false)) := by kernel_rfl
theorem g7_24_2 : dstOf (regOf Try.f7 24) 2 = some 135 := by kernel_rfl
theorem p7_24_4 : pj (regOf Try.f7 24) 4 = some (some 137, .call { callee := .builtin .len, args := #[.tmp 136], argTypes := #[35] }, 3, some (2, false)) := by kernel_rfl
theorem p7_24_5 : pj (regOf Try.f7 24) 5 = some (some 138, .move (.tmp 9), 63, some (2, false)) := by kernel_rfl
theorem p7_24_6 : pj (regOf Try.f7 24) 6 = some (some 139, .nilCheck (.tmp 138), 0, some (2, false)) := by kernel_rfl
theorem p7_24_7 : pj (regOf Try.f7 24) 7 = some (some 140, .fieldAddr 66 (.tmp 139) 2, 0, some (2, false)) := by kernel_rfl
theorem tS64 : (Try.prog.info? 64).map (·.size) = some 1 := by kernel_rfl
theorem p7_24_8 : pj (regOf Try.f7 24) 8 = some (some 141, .load 64 (.tmp 140), 64, some (2, false)) := by kernel_rfl
theorem tA64 : (Try.prog.underlying 64).map aggD = some false := by kernel_rfl
theorem p7_24_9 : pj (regOf Try.f7 24) 9 = some (some 142, .call { callee := .builtin .len, args := #[.tmp 141], argTypes := #[64] }, 3, some (2, false)) := by kernel_rfl
theorem p7_24_10 : pj (regOf Try.f7 24) 10 = some (some 143, .binOp .neq 3 (.tmp 137) (.tmp 142) 3, 4, some (2, false)) := by kernel_rfl
theorem p7_24_11 : pj (regOf Try.f7 24) 11 = some (some 144, .pick (.tmp 135) (.const (.bool true)) (.tmp 143), 4, none) := by kernel_rfl
theorem p7_26_0 : pj (regOf Try.f7 26) 0 = some (some 18, .assign (.const (.int .i64 0)), 3, none) := by kernel_rfl
theorem p7_27_0 : pj (regOf Try.f7 27) 0 = some (some 145, .move (.tmp 18), 3, none) := by kernel_rfl
theorem p7_27_1 : pj (regOf Try.f7 27) 1 = some (some 146, .move (.tmp 17), 35, none) := by kernel_rfl
theorem p7_27_2 : pj (regOf Try.f7 27) 2 = some (some 147, .call { callee := .builtin .len, args := #[.tmp 146], argTypes := #[35] }, 3, none) := by kernel_rfl
theorem p7_27_3 : pj (regOf Try.f7 27) 3 = some (some 148, .binOp .lss 3 (.tmp 145) (.tmp 147) 3, 4, none) := by kernel_rfl
theorem ns7_29 : Region.noSelect (regOf Try.f7 29) = true := by kernel_rfl
theorem p7_29_0 : pj (regOf Try.f7 29) 0 = some (some 151, .move (.tmp 17), 35, none) := by kernel_rfl
theorem p7_29_1 : pj (regOf Try.f7 29) 1 = some (some 152, .move (.tmp 18), 3, none) := by kernel_rfl
theorem p7_29_2 : pj (regOf Try.f7 29) 2 = some (some 153, .indexAddr 35 (.tmp 151) (.tmp 152), 0, none) := by kernel_rfl
theorem p7_29_3 : pj (regOf Try.f7 29) 3 = some (some 154, .load 3 (.tmp 153), 3, none) := by kernel_rfl
theorem p7_29_4 : pj (regOf Try.f7 29) 4 = some (some 155, .move (.tmp 9), 63, none) := by kernel_rfl
theorem p7_29_5 : pj (regOf Try.f7 29) 5 = some (some 156, .nilCheck (.tmp 155), 0, none) := by kernel_rfl
theorem p7_29_6 : pj (regOf Try.f7 29) 6 = some (some 157, .fieldAddr 66 (.tmp 156) 2, 0, none) := by kernel_rfl
theorem p7_29_7 : pj (regOf Try.f7 29) 7 = some (some 158, .load 64 (.tmp 157), 64, none) := by kernel_rfl
theorem p7_29_8 : pj (regOf Try.f7 29) 8 = some (some 159, .move (.tmp 18), 3, none) := by kernel_rfl
theorem p7_29_9 : pj (regOf Try.f7 29) 9 = some (some 160, .indexAddr 64 (.tmp 158) (.tmp 159), 0, none) := by kernel_rfl
theorem tS70 : (Try.prog.info? 70).map (·.size) = some 3 := by kernel_rfl
theorem p7_29_10 : pj (regOf Try.f7 29) 10 = some (some 161, .fieldAddr 70 (.tmp 160) 0, 0, none) := by kernel_rfl
theorem p7_29_11 : pj (regOf Try.f7 29) 11 = some (some 162, .load 3 (.tmp 161), 3, none) := by kernel_rfl
theorem p7_29_12 : pj (regOf Try.f7 29) 12 = some (some 163, .binOp .neq 3 (.tmp 154) (.tmp 162) 3, 4, none) := by kernel_rfl
theorem p7_28_0 : pj (regOf Try.f7 28) 0 = some (some 149, .move (.tmp 18), 3, none) := by kernel_rfl
theorem p7_28_1 : pj (regOf Try.f7 28) 1 = some (some 150, .binOp .add 3 (.tmp 149) (.const (.int .i64 1)) 3, 3, none) := by kernel_rfl
theorem p7_28_2 : pj (regOf Try.f7 28) 2 = some (some 18, .assign (.tmp 150), 3, none) := by kernel_rfl
theorem p7_9_0 : pj (regOf Try.f7 9) 0 = some (some 66, .move (.tmp 10), 3, none) := by kernel_rfl
theorem p7_9_1 : pj (regOf Try.f7 9) 1 = some (some 67, .binOp .add 3 (.tmp 66) (.const (.int .i64 1)) 3, 3, none) := by kernel_rfl
theorem p7_9_2 : pj (regOf Try.f7 9) 2 = some (some 10, .assign (.tmp 67), 3, none) := by kernel_rfl
theorem p7_17_0 : pj (regOf Try.f7 17) 0 = some (some 97, .binOp .eql 23 (.tmp 75) (.const (.int .u64 1)) 23, 4, none) := by kernel_rfl
theorem p7_17_1 : pj (regOf Try.f7 17) 1 = some (some 96, .assign (.tmp 97), 4, none) := by kernel_rfl
theorem ns7_18 : Region.noSelect (regOf Try.f7 18) = true := by kernel_rfl
theorem p7_18_0 : pj (regOf Try.f7 18) 0 = some (some 98, .move (.tmp 7), 56, none) := by kernel_rfl
theorem p7_18_1 : pj (regOf Try.f7 18) 1 = some (some 99, .fieldAddr 68 (.tmp 11) 1, 0, none) := by kernel_rfl
theorem p7_18_2 : pj (regOf Try.f7 18) 2 = some (some 100, .load 3 (.tmp 99), 3, none) := by kernel_rfl
theorem p7_18_4 : pj (regOf Try.f7 18) 4 = some (some 102, .move (.tmp 9), 63, none) := by kernel_rfl
theorem p7_18_5 : pj (regOf Try.f7 18) 5 = some (some 103, .fieldAddr 68 (.tmp 11) 1, 0, none) := by kernel_rfl
theorem p7_18_6 : pj (regOf Try.f7 18) 6 = some (some 104, .load 3 (.tmp 103), 3, none) := by kernel_rfl
theorem p7_18_3 : pj (regOf Try.f7 18) 3 = some (some 101, .call { callee := .value (.func 27), args := #[.tmp 98, .tmp 100], argTypes := #[56, 3] }, 4, none) := by kernel_rfl
theorem cl27 : callable Try.f27 = true := by kernel_rfl
theorem p7_18_7 : pj (regOf Try.f7 18) 7 = some (some 105, .call { callee := .value (.func 29), args := #[.tmp 102, .tmp 104], argTypes := #[63, 3] }, 4, none) := by kernel_rfl
theorem cl29 : callable Try.f29 = true := by kernel_rfl
theorem p7_18_8 : pj (regOf Try.f7 18) 8 = some (some 106, .binOp .eql 4 (.tmp 101) (.tmp 105) 4, 4, none) := by kernel_rfl
theorem p7_18_9 : pj (regOf Try.f7 18) 9 = some (some 12, .assign (.tmp 106), 4, none) := by kernel_rfl
theorem p7_19_0 : pj (regOf Try.f7 19) 0 = some (some 108, .binOp .eql 23 (.tmp 75) (.const (.int .u64 2)) 23, 4, none) := by kernel_rfl
theorem p7_19_1 : pj (regOf Try.f7 19) 1 = some (some 107, .assign (.tmp 108), 4, none) := by kernel_rfl
theorem p7_20_0 : pj (regOf Try.f7 20) 0 = some (some 110, .move (.tmp 7), 56, none) := by kernel_rfl
theorem p7_20_1 : pj (regOf Try.f7 20) 1 = some (some 111, .fieldAddr 68 (.tmp 11) 2, 0, none) := by kernel_rfl
theorem p7_20_2 : pj (regOf Try.f7 20) 2 = some (some 112, .load 3 (.tmp 111), 3, none) := by kernel_rfl
theorem p7_20_3 : pj (regOf Try.f7 20) 3 = some (some 113, .call { callee := .value (.func 24), args := #[.tmp 110, .tmp 112], argTypes := #[56, 3] }, 59, none) := by kernel_rfl
theorem cl24 : callable Try.f24 = true := by kernel_rfl
theorem p7_20_4 : pj (regOf Try.f7 20) 4 = some (some 109, .move (.tmp 113), 59, none) := by kernel_rfl
theorem p7_20_5 : pj (regOf Try.f7 20) 5 = some (some 114, .extract (.tmp 109) 0, 35, none) := by kernel_rfl
theorem p7_20_6 : pj (regOf Try.f7 20) 6 = some (some 115, .extract (.tmp 109) 1, 35, none) := by kernel_rfl
theorem p7_20_7 : pj (regOf Try.f7 20) 7 = some (some 13, .assign (.tmp 114), 35, none) := by kernel_rfl
theorem p7_20_8 : pj (regOf Try.f7 20) 8 = some (some 14, .assign (.tmp 115), 35, none) := by kernel_rfl
theorem p7_21_0 : pj (regOf Try.f7 21) 0 = some (some 117, .move (.tmp 9), 63, none) := by kernel_rfl
theorem p7_21_1 : pj (regOf Try.f7 21) 1 = some (some 118, .fieldAddr 68 (.tmp 11) 2, 0, none) := by kernel_rfl
theorem p7_21_2 : pj (regOf Try.f7 21) 2 = some (some 119, .load 3 (.tmp 118), 3, none) := by kernel_rfl
theorem p7_21_3 : pj (regOf Try.f7 21) 3 = some (some 120, .call { callee := .value (.func 30), args := #[.tmp 117, .tmp 119], argTypes := #[63, 3] }, 59, none) := by kernel_rfl
theorem cl30 : callable Try.f30 = true := by kernel_rfl
theorem p7_21_4 : pj (regOf Try.f7 21) 4 = some (some 116, .move (.tmp 120), 59, none) := by kernel_rfl
theorem p7_21_5 : pj (regOf Try.f7 21) 5 = some (some 121, .extract (.tmp 116) 0, 35, none) := by kernel_rfl
theorem p7_21_6 : pj (regOf Try.f7 21) 6 = some (some 122, .extract (.tmp 116) 1, 35, none) := by kernel_rfl
theorem p7_21_7 : pj (regOf Try.f7 21) 7 = some (some 15, .assign (.tmp 121), 35, none) := by kernel_rfl
theorem p7_21_8 : pj (regOf Try.f7 21) 8 = some (some 16, .assign (.tmp 122), 35, none) := by kernel_rfl
theorem p7_22_0 : pj (regOf Try.f7 22) 0 = some (some 123, .move (.tmp 13), 35, none) := by kernel_rfl
theorem p7_22_1 : pj (regOf Try.f7 22) 1 = some (some 124, .move (.tmp 15), 35, none) := by kernel_rfl
theorem p7_22_2 : pj (regOf Try.f7 22) 2 = some (some 125, .call { callee := .value (.func 15), args := #[.tmp 123, .tmp 124], argTypes := #[35, 35] }, 4, none) := by kernel_rfl
theorem cl15 : callable Try.f15 = true := by kernel_rfl
theorem p7_22_3 : pj (regOf Try.f7 22) 3 = some (some 126, .move (.tmp 125), 4, none) := by kernel_rfl
theorem p7_22_4 : pj (regOf Try.f7 22) 4 = some (some 127, .move (.tmp 14), 35, some (3, true)) := by kernel_rfl
theorem g7_22_3 : dstOf (regOf Try.f7 22) 3 = some 126 := by kernel_rfl
theorem p7_22_5 : pj (regOf Try.f7 22) 5 = some (some 128, .move (.tmp 16), 35, some (3, true)) := by kernel_rfl
theorem p7_22_6 : pj (regOf Try.f7 22) 6 = some (some 129, .call { callee := .value (.func 15), args := #[.tmp 127, .tmp 128], argTypes := #[35, 35] }, 4, some (3, true)) := by kernel_rfl
theorem p7_22_7 : pj (regOf Try.f7 22) 7 = some (some 130, .pick (.tmp 126) (.tmp 129) (.const (.bool false)), 4, none) := by kernel_rfl
theorem p7_22_8 : pj (regOf Try.f7 22) 8 = some (some 12, .assign (.tmp 130), 4, none) := by kernel_rfl
theorem p7_13_0 : pj (regOf Try.f7 13) 0 = some (some 76, .move (.tmp 7), 56, none) := by kernel_rfl
theorem p7_13_1 : pj (regOf Try.f7 13) 1 = some (some 77, .call { callee := .value (.func 31), args := #[.tmp 76], argTypes := #[56] }, 0, none) := by kernel_rfl
theorem cl31 : callable Try.f31 = true := by kernel_rfl
theorem p7_14_0 : pj (regOf Try.f7 14) 0 = some (some 78, .move (.tmp 9), 63, none) := by kernel_rfl
theorem p7_14_1 : pj (regOf Try.f7 14) 1 = some (some 79, .nilCheck (.tmp 78), 0, none) := by kernel_rfl
theorem p7_14_2 : pj (regOf Try.f7 14) 2 = some (some 80, .fieldAddr 66 (.tmp 79) 2, 0, none) := by kernel_rfl
theorem p7_14_3 : pj (regOf Try.f7 14) 3 = some (none, .store 64 (.tmp 80) (.const (.slice none 0 0)), 0, none) := by kernel_rfl
theorem p7_31_0 : pj (regOf Try.f7 31) 0 = some (some 164, .call { callee := .value (.func 25), args := #[], argTypes := #[] }, 4, none) := by kernel_rfl
theorem cl25 : callable Try.f25 = true := by kernel_rfl
theorem p7_31_1 : pj (regOf Try.f7 31) 1 = some (some 6, .assign (.tmp 164), 4, none) := by kernel_rfl
theorem p7_3_0 : pj (regOf Try.f7 3) 0 = some (some 39, .call { callee := .value (.func 25), args := #[], argTypes := #[] }, 4, none) := by kernel_rfl
theorem p7_3_1 : pj (regOf Try.f7 3) 1 = some (some 40, .move (.tmp 39), 4, none) := by kernel_rfl
theorem p7_3_2 : pj (regOf Try.f7 3) 2 = some (some 41, .move (.tmp 8), 30, some (1, true)) := by kernel_rfl
theorem g7_3_1 : dstOf (regOf Try.f7 3) 1 = some 40 := by kernel_rfl
theorem p7_3_3 : pj (regOf Try.f7 3) 3 = some (some 42, .binOp .eql 30 (.tmp 41) (.const (.int .i64 1)) 30, 4, some (1, true)) := by kernel_rfl
theorem p7_3_4 : pj (regOf Try.f7 3) 4 = some (some 43, .pick (.tmp 40) (.tmp 42) (.const (.bool false)), 4, none) := by kernel_rfl
theorem p7_3_5 : pj (regOf Try.f7 3) 5 = some (some 44, .move (.tmp 43), 4, none) := by kernel_rfl
theorem p7_3_6 : pj (regOf Try.f7 3) 6 = some (some 45, .move (.tmp 7), 56, some (5, true)) := by kernel_rfl
theorem g7_3_5 : dstOf (regOf Try.f7 3) 5 = some 44 := by kernel_rfl
theorem p7_3_7 : pj (regOf Try.f7 3) 7 = some (some 46, .binOp .eql 56 (.tmp 45) (.const (.pointer none)) 56, 4, some (5, true)) := by kernel_rfl
theorem p7_3_8 : pj (regOf Try.f7 3) 8 = some (some 47, .pick (.tmp 44) (.tmp 46) (.const (.bool false)), 4, none) := by kernel_rfl
theorem p7_3_9 : pj (regOf Try.f7 3) 9 = some (some 6, .assign (.tmp 47), 4, none) := by kernel_rfl
set_option maxHeartbeats 4000000 in
theorem walk (a0 : Int) (a1 : Int) (a2 : Option Addr) (cap2 : Nat) (z2 : List (Int × Int × Int)) (w : World) (w0 : (Lit.int .i64 a0).wf = true) (w1 : (Lit.int .i64 a1).wf = true) (w2 : Kd.C (Kd.pair (Kd.int .i64) (Kd.pair (Kd.int .i64) (Kd.int .i64))) w a2 z2.length z2) (m2 : z2.length ≤ cap2) (o2 : (z2.length ≤ maxLen ∧ ∀ x0 ∈ z2, ((Lit.int .i64 x0.1).wf = true ∧ ((Lit.int .i64 x0.2.1).wf = true ∧ ((Lit.int .i64 x0.2.2).wf = true))))) (y2 : z2.length * Try.prog.bytesOf 68 ≤ 140737488351232) (c2 : cap2 ≤ maxLen ∧ (a2 = none → cap2 = 0)) :
    Calls Try.prog 7 #[.int .i64 a0, .int .i64 a1, .slice a2 z2.length cap2] w fun e w' => e = .returned (.bool true) ∧ Below w.heap.size w w' := by
  have K_0 := Kp.refl w (fun _ => False)
  have Fz1 := w2
  refine enter (args := [Value.int .i64 a0, Value.int .i64 a1, Value.slice a2 z2.length cap2]) (n := 165) Try.func7 body7 rfl rfl rfl ?_
  intro a hE
  refine c_reg R7_0_l ?_
  refine q0 p7_0_0 hE (st_assign rfl) ?_
  clear hE a; intro a hE
  refine p_nil ?_
  refine x_norm ?_
  rcases Decidable.em ((1 ≤ a0 ∧ a0 ≤ 1048576) ∧ 1 ≤ a1 ∧ a1 ≤ 16) with hOKN | hOKN
  ·
    refine c_reg R7_1_l ?_
    refine q0 p7_1_0 hE (st_move rfl) ?_
    clear hE a; intro a hE
    refine q0 p7_1_1 hE (st_move rfl) ?_
    clear hE a; intro a hE
    refine p_cons (s_call (xs := [Operand.tmp 20, Operand.tmp 21]) (args := [Value.int .i64 a0, Value.int .i64 a1]) p7_1_2 hE wn_none rfl rfl Try.func22 cl22 (new_ok a0 a1 hOKN _) ?_)
    rintro e w1 ⟨gW, gN, rfl, zW9, zN9, n_gW_gN, B_gW, B_gN, hk⟩
    have z_0_gW := Nat.le_trans K_0.kept.1 zW9
    have z_0_gN := Nat.le_trans K_0.kept.1 zN9
    replace K_0 := K_0.then_ hk (fun _ h => h.elim)
    refine ⟨_, rfl, ?_⟩
    clear hE a; intro a hE
    refine q0 p7_1_3 hE (st_move rfl) ?_
    clear hE a; intro a hE
    refine q0 p7_1_4 hE (st_extract rfl rfl) ?_
    clear hE a; intro a hE
    refine q0 p7_1_5 hE (st_extract rfl rfl) ?_
    clear hE a; intro a hE
    refine q0 p7_1_6 hE (st_assign rfl) ?_
    clear hE a; intro a hE
    refine q0 p7_1_7 hE (st_assign rfl) ?_
    clear hE a; intro a hE
    refine p_nil ?_
    refine x_norm ?_
    refine wp_seq ?_
    refine c_reg R7_2_l ?_
    refine q0 p7_2_0 hE (st_move rfl) ?_
    clear hE a; intro a hE
    refine q0 p7_2_1 hE (st_lss (b := false) rfl rfl (decide_eq_false (by omega))) ?_
    clear hE a; intro a hE
    refine q0 p7_2_2 hE (st_move rfl) ?_
    clear hE a; intro a hE
    refine p_cons (s_still p7_2_3 hE (wn_some g7_2_2 rfl rfl) rfl (st_move rfl) ?_)
    clear hE a; intro a hE
    refine p_cons (s_still p7_2_4 hE (wn_some g7_2_2 rfl rfl) rfl (st_gtr (b := false) rfl rfl (decide_eq_false (by omega))) ?_)
    clear hE a; intro a hE
    refine q0 p7_2_5 hE (st_pick rfl rfl) ?_
    clear hE a; intro a hE
    refine q0 p7_2_6 hE (st_move rfl) ?_
    clear hE a; intro a hE
    refine p_cons (s_still p7_2_7 hE (wn_some g7_2_6 rfl rfl) rfl (st_move rfl) ?_)
    clear hE a; intro a hE
    refine p_cons (s_still p7_2_8 hE (wn_some g7_2_6 rfl rfl) rfl (st_lss (b := false) rfl rfl (decide_eq_false (by omega))) ?_)
    clear hE a; intro a hE
    refine q0 p7_2_9 hE (st_pick rfl rfl) ?_
    clear hE a; intro a hE
    refine q0 p7_2_10 hE (st_move rfl) ?_
    clear hE a; intro a hE
    refine p_cons (s_still p7_2_11 hE (wn_some g7_2_10 rfl rfl) rfl (st_move rfl) ?_)
    clear hE a; intro a hE
    refine p_cons (s_still p7_2_12 hE (wn_some g7_2_10 rfl rfl) rfl (st_gtr (b := false) rfl rfl (decide_eq_false (by omega))) ?_)
    clear hE a; intro a hE
    refine q0 p7_2_13 hE (st_pick rfl rfl) ?_
    clear hE a; intro a hE
    refine p_nil ?_
    refine x_norm ?_
    refine c_cond (t := false) hE rfl ?_
    refine wp_skip ?_
    refine x_norm ?_
    refine wp_seq ?_
    refine c_reg R7_4_l ?_
    refine q0 p7_4_0 hE (st_move rfl) ?_
    clear hE a; intro a hE
    refine q0 p7_4_1 hE (st_neq (b := false) rfl rfl (by decide)) ?_
    clear hE a; intro a hE
    refine q0 p7_4_2 hE (st_move rfl) ?_
    clear hE a; intro a hE
    refine p_cons (s_still p7_4_3 hE (wn_some g7_4_2 rfl rfl) rfl (st_move rfl) ?_)
    clear hE a; intro a hE
    refine p_cons (s_still p7_4_4 hE (wn_some g7_4_2 rfl rfl) rfl (st_eqlP (b := false) tP56 rfl rfl rfl) ?_)
    clear hE a; intro a hE
    refine q0 p7_4_5 hE (st_pick rfl rfl) ?_
    clear hE a; intro a hE
    refine p_nil ?_
    refine x_norm ?_
    refine c_cond (t := false) hE rfl ?_
    refine wp_skip ?_
    refine x_norm ?_
    refine c_reg R7_6_l ?_
    have hwt : 0 ≤ a0 ∧ a0 ≤ 1048576 := ⟨by omega, by omega⟩
    have htr16 : a1 ≤ 16 := by omega
    refine q0 p7_6_0 hE (st_move rfl) ?_
    clear hE a; intro a hE
    refine q0 p7_6_1 hE (st_move rfl) ?_
    clear hE a; intro a hE
    refine q0 p7_6_2 hE (st_build (xs := [(0, Operand.tmp 54), (1, Operand.tmp 55)]) (vs := [(0, Value.int .i64 a0), (1, Value.int .i64 a1)]) (cs := #[Value.int .i64 a0, Value.int .i64 a1, Value.slice none 0 0]) rfl (by kernel_rfl)) ?_
    clear hE a; intro a hE
    refine p_cons (s_box p7_6_3 hE wn_none rfl rfl ?_)
    clear hE a; intro g2 w3 z4 B_g2 hk a hE
    replace B_g2 : w3.heap[g2]? = some (.cells #[Value.int .i64 a0, Value.int .i64 a1, Value.slice none 0 0] 66 (0, 0)) := B_g2
    have n_gW_g2 : gW ≠ g2 := ne_new B_gW z4
    have n_gN_g2 : gN ≠ g2 := ne_new B_gN z4
    have z_0_g2 := Nat.le_trans K_0.kept.1 z4
    replace B_gW := kp_blk B_gW hk (fun h => h)
    replace B_gN := kp_blk B_gN hk (fun h => h)
    replace K_0 := K_0.then_ hk (fun _ h => h.elim)
    clear hk
    refine q0 p7_6_4 hE (st_assign rfl) ?_
    clear hE a; intro a hE
    refine p_nil ?_
    refine x_norm ?_
    refine wp_seq ?_
    refine c_reg R7_7_l ?_
    refine q0 p7_7_0 hE (st_assign rfl) ?_
    clear hE a; intro a hE
    refine p_nil ?_
    refine x_norm ?_
    refine wp_block ?_
    have O_D : Rv.RdV w3 none 0 3 (flO []) := Rv.rdv_nil _ 3
    have hc_D : (([] : L3).length ≤ 0 ∧ ((none : Option Addr) = none → 0 = 0)) := ⟨Nat.le_refl _, fun _ => rfl⟩
    have Nb_D_gW : ¬ OB none gW := ob_nil
    have Nb_D_gN : ¬ OB none gN := ob_nil
    have Nb_D_g2 : ¬ OB none g2 := ob_nil
    refine c_loop (α := Nat) (fun i a W => ∃ (A_D : Option Addr) (c_D : Nat) (n_D : Nat), ∃ (es9 : Array MapEntry), ∃ (ck9 : Nat), ∃ (l9 : LO), ∃ (L9 : L3), En 165 a [(0, Value.int .i64 a0), (1, Value.int .i64 a1), (2, Value.slice a2 z2.length cap2), (7, Value.pointer (some ⟨gW, 0, none⟩)), (8, Value.int .i64 0), (38, Value.bool false), (53, Value.bool false), (9, Value.pointer (some ⟨g2, 0, none⟩)), (10, Value.int .i64 (i : Int))] ∧ MapI encO es9 ck9 l9 ∧ Rel l9 L9 ∧ Ok l9 ∧ n_D = L9.length ∧ (L9.length ≤ c_D ∧ (A_D = none → c_D = 0)) ∧ i ≤ z2.length ∧ W.heap[gW]? = some (.cells #[Value.int .i64 a0, Value.int .i64 a1, Value.map (some gN)] 82 (0, 0)) ∧ W.heap[gN]? = some (.map es9 ck9) ∧ W.heap[g2]? = some (.cells #[Value.int .i64 a0, Value.int .i64 a1, Value.slice A_D n_D c_D] 66 (0, 0)) ∧ Rv.RdV W A_D n_D 3 (flO L9) ∧ ¬ OB A_D gW ∧ ¬ OB A_D gN ∧ ¬ OB A_D g2 ∧ Kp w W (fun _ => False)) (fun i => z2.length - i) (0) ?_ ?_
    ·
      exact ⟨none, 0, 0, #[], 0, [], [], En.sub hE ⟨rfl, rfl, rfl, rfl, rfl, rfl, rfl, rfl, rfl, trivial⟩, (Mi.mapi_nil encO 0), rel_nil, ok_nil, rfl, hc_D, Nat.zero_le _, B_gW, B_gN, B_g2, O_D, Nb_D_gW, Nb_D_gN, Nb_D_g2, K_0⟩
    ·
      clear hE a
      rintro i a w5 ⟨A_D, c_D, n_D, es9, ck9, l9, L9, hE, MF9, hrel, hokl, hnD, hc_D, hi9, B_gW, B_gN, B_g2, O_D, Nb_D_gW, Nb_D_gN, Nb_D_g2, K_0⟩
      refine wp_seq ?_
      subst hnD
      rcases Decidable.em ((i : Int) < (z2.length : Int)) with hI1 | hI1
      ·
        rcases Decidable.em ((i : Int) < 60) with hI2 | hI2
        ·
          refine c_reg R7_8_l ?_
          refine q0 p7_8_0 hE (st_move rfl) ?_
          clear hE a; intro a hE
          refine q0 p7_8_1 hE (st_move rfl) ?_
          clear hE a; intro a hE
          refine q0 p7_8_2 hE (st_len Try.underlying62 rfl) ?_
          clear hE a; intro a hE
          refine q0 p7_8_3 hE (st_lss (b := true) rfl rfl (decide_eq_true hI1)) ?_
          clear hE a; intro a hE
          refine q0 p7_8_4 hE (st_move rfl) ?_
          clear hE a; intro a hE
          refine p_cons (s_still p7_8_5 hE (wn_some g7_8_4 rfl rfl) rfl (st_move rfl) ?_)
          clear hE a; intro a hE
          refine p_cons (s_still p7_8_6 hE (wn_some g7_8_4 rfl rfl) rfl (st_lss (b := true) rfl rfl (decide_eq_true hI2)) ?_)
          clear hE a; intro a hE
          refine q0 p7_8_7 hE (st_pick rfl rfl) ?_
          clear hE a; intro a hE
          refine p_nil ?_
          refine x_norm ?_
          refine c_cond (t := true) hE rfl ?_
          refine wp_skip ?_
          refine x_norm ?_
          refine wp_seq ?_
          refine wp_block ?_
          refine c_reg R7_10_l ?_
          obtain ⟨hAe, cce, hKe, hce⟩ := C_elem (i := i) Fz1 zA (show i < z2.length by omega)
          obtain ⟨⟨xk, xs, xn⟩, hxe⟩ : ∃ x, List.getD z2 i zA = x := ⟨_, rfl⟩
          rw [hxe] at hKe
          obtain rfl := act_open hKe
          have hl9 := ok_len hrel.keysl hokl
          have hLl := hrel.len
          refine q0 p7_10_0 hE (st_move rfl) ?_
          clear hE a; intro a hE
          refine q0 p7_10_1 hE (st_move rfl) ?_
          clear hE a; intro a hE
          refine q0 p7_10_2 hE (st_indexAddrR (i := i) (s := 3) Try.underlying62 tS68 hAe rfl rfl (by omega)) ?_
          clear hE a; intro a hE
          refine q0 p7_10_3 hE (st_loadR (off := i * 3) (j := 0) (k := 3) (vs := [Value.int .i64 xk, Value.int .i64 xs, Value.int .i64 xn]) tA68 tS68 (fun j u h => cell_to K_0 (hce j u h)) rfl rfl (by omega) rfl) ?_
          clear hE a; intro a hE
          refine p_cons (s_alloc p7_10_4 hE wn_none rfl tZ68 ?_)
          clear hE a; intro g6 w7 z8 B_g6 hk a hE
          replace B_g6 : w7.heap[g6]? = some (.cells #[Value.int .i64 0, Value.int .i64 0, Value.int .i64 0] 68 (0, 0)) := B_g6
          have n_gW_g6 : gW ≠ g6 := ne_new B_gW z8
          have n_gN_g6 : gN ≠ g6 := ne_new B_gN z8
          have n_g2_g6 : g2 ≠ g6 := ne_new B_g2 z8
          have z_0_g6 := Nat.le_trans K_0.kept.1 z8
          have Nb_D_g6 : ¬ OB A_D g6 := fun h => by have := (Rv.rdv_ob O_D h).2; omega
          replace B_gW := kp_blk B_gW hk (fun h => h)
          replace B_gN := kp_blk B_gN hk (fun h => h)
          replace B_g2 := kp_blk B_g2 hk (fun h => h)
          replace O_D := Rv.rdv_keep O_D hk (fun _ _ h => h)
          replace K_0 := K_0.then_ hk (fun _ h => h.elim)
          clear hk
          refine p_cons (s_store (off := 0) (k := 3) (cs' := #[Value.int .i64 xk, Value.int .i64 xs, Value.int .i64 xn]) p7_10_5 hE wn_none tS68 rfl rfl rfl rfl B_g6 (Nat.le_of_ble_eq_true rfl) rfl ?_)
          intro w9 B_g6' hk
          replace B_gW := kp_blk B_gW hk n_gW_g6
          replace B_gN := kp_blk B_gN hk n_gN_g6
          replace B_g2 := kp_blk B_g2 hk n_g2_g6
          replace O_D := Rv.rdv_keep O_D hk (fun k hk2 h2 => Nb_D_g6 (by rw [show k = g6 from h2] at hk2; exact hk2))
          replace K_0 := K_0.then_ hk (fun k h => by rw [show k = g6 from h]; exact Or.inr z_0_g6)
          replace B_g6 := B_g6'
          clear hk
          refine p_nil ?_
          refine x_norm ?_
          refine c_reg R7_11_l ?_
          refine q0 p7_11_0 hE (st_assign rfl) ?_
          clear hE a; intro a hE
          refine p_nil ?_
          refine x_norm ?_
          refine wp_seq ?_
          refine c_reg R7_12_l ?_
          refine q0 p7_12_0 hE (st_fieldAddr Try.underlying68 rfl tS3 rfl rfl) ?_
          clear hE a; intro a hE
          refine q0 p7_12_1 hE (st_load1 tA3 rfl ((blk_cell B_g6 0).trans rfl)) ?_
          clear hE a; intro a hE
          refine q0 p7_12_2 hE (st_conv (z := (xk % 18446744073709551616)) (by kernel_rfl) Try.underlying23 rfl (IntKind.wrap_u64 _)) ?_
          clear hE a; intro a hE
          refine q0 p7_12_3 hE (st_rem (z := (xk % 18446744073709551616) % 4) rfl rfl (by omega) (Int.tmod_eq_emod_of_nonneg (by omega))) ?_
          clear hE a; intro a hE
          refine p_nil ?_
          refine x_norm ?_
          refine wp_block ?_
          rcases Decidable.em ((xk % 18446744073709551616 % 4) = 0) with hKA | hKA
          ·
            refine c_reg R7_15_l ?_
            refine q0 p7_15_0 hE (st_eql (b := true) rfl rfl (decide_eq_true hKA)) ?_
            clear hE a; intro a hE
            refine q0 p7_15_1 hE (st_assign rfl) ?_
            clear hE a; intro a hE
            refine p_nil ?_
            refine x_norm ?_
            refine c_cond (t := true) hE rfl ?_
            refine c_draw (S := fun W => W.heap[g6]? = some (.cells #[Value.int .i64 xk, Value.int .i64 xs, Value.int .i64 xn] 68 (0, 0)) ∧ True) rfl rfl (listed := #[false, false, false, false, false, false, false, false, false, false, false, false, false, false]) rfl ?_
            intro w10 hh hk
            replace B_gW := kp_blk B_gW hk (fun h => h)
            replace B_gN := kp_blk B_gN hk (fun h => h)
            replace B_g2 := kp_blk B_g2 hk (fun h => h)
            replace B_g6 := kp_blk B_g6 hk (fun h => h)
            replace O_D := Rv.rdv_keep O_D hk (fun _ _ h => h)
            replace K_0 := K_0.then_ hk (fun _ h => h.elim)
            clear hh hk
            refine d_take (v := Value.pointer (some ⟨gW, 0, none⟩)) p7_16_0 ns7_16 (by kernel_rfl) (by kernel_rfl) (fun _ _ _ h => h) hE wn_none rfl ⟨B_g6, trivial⟩ (fun W hS => (st_move rfl)) rfl ?_
            clear hE a; intro a hE
            refine d_take (v := Value.pointer (some ⟨g6, 1, none⟩)) p7_16_1 ns7_16 (by kernel_rfl) (by kernel_rfl) (fun _ _ _ h => h) hE wn_none rfl ⟨B_g6, trivial⟩ (fun W hS => (st_fieldAddr Try.underlying68 rfl tS3 rfl rfl)) rfl ?_
            clear hE a; intro a hE
            refine d_take (v := Value.int .i64 xs) p7_16_2 ns7_16 (by kernel_rfl) (by kernel_rfl) (fun _ _ _ h => h) hE wn_none rfl ⟨B_g6, trivial⟩ (fun W hS => (st_load1 tA3 rfl ((blk_cell hS.1 1).trans rfl))) rfl ?_
            clear hE a; intro a hE
            refine d_take (v := Value.pointer (some ⟨g6, 2, none⟩)) p7_16_3 ns7_16 (by kernel_rfl) (by kernel_rfl) (fun _ _ _ h => h) hE wn_none rfl ⟨B_g6, trivial⟩ (fun W hS => (st_fieldAddr Try.underlying68 rfl tS3 rfl rfl)) rfl ?_
            clear hE a; intro a hE
            refine d_take (v := Value.int .i64 xn) p7_16_4 ns7_16 (by kernel_rfl) (by kernel_rfl) (fun _ _ _ h => h) hE wn_none rfl ⟨B_g6, trivial⟩ (fun W hS => (st_load1 tA3 rfl ((blk_cell hS.1 2).trans rfl))) rfl ?_
            clear hE a; intro a hE
            refine d_take (v := Value.pointer (some ⟨g2, 0, none⟩)) p7_16_6 ns7_16 (by kernel_rfl) (by kernel_rfl) (fun _ _ _ h => h) hE wn_none rfl ⟨B_g6, trivial⟩ (fun W hS => (st_move rfl)) rfl ?_
            clear hE a; intro a hE
            refine d_take (v := Value.pointer (some ⟨g6, 1, none⟩)) p7_16_7 ns7_16 (by kernel_rfl) (by kernel_rfl) (fun _ _ _ h => h) hE wn_none rfl ⟨B_g6, trivial⟩ (fun W hS => (st_fieldAddr Try.underlying68 rfl tS3 rfl rfl)) rfl ?_
            clear hE a; intro a hE
            refine d_take (v := Value.int .i64 xs) p7_16_8 ns7_16 (by kernel_rfl) (by kernel_rfl) (fun _ _ _ h => h) hE wn_none rfl ⟨B_g6, trivial⟩ (fun W hS => (st_load1 tA3 rfl ((blk_cell hS.1 1).trans rfl))) rfl ?_
            clear hE a; intro a hE
            refine d_take (v := Value.pointer (some ⟨g6, 2, none⟩)) p7_16_9 ns7_16 (by kernel_rfl) (by kernel_rfl) (fun _ _ _ h => h) hE wn_none rfl ⟨B_g6, trivial⟩ (fun W hS => (st_fieldAddr Try.underlying68 rfl tS3 rfl rfl)) rfl ?_
            clear hE a; intro a hE
            refine d_take (v := Value.int .i64 xn) p7_16_10 ns7_16 (by kernel_rfl) (by kernel_rfl) (fun _ _ _ h => h) hE wn_none rfl ⟨B_g6, trivial⟩ (fun W hS => (st_load1 tA3 rfl ((blk_cell hS.1 2).trans rfl))) rfl ?_
            clear hE a; intro a hE
            refine d_one (by kernel_rfl) rfl (s_call (xs := [Operand.tmp 83, Operand.tmp 85, Operand.tmp 87]) (args := [Value.pointer (some ⟨gW, 0, none⟩), Value.int .i64 xs, Value.int .i64 xn]) p7_16_5 hE wn_none rfl rfl Try.func23 cl23 (send_any gW gN ck9 es9 l9 a0 a1 xs xn _ hwt B_gW B_gN MF9 n_gW_gN) ?_)
            rintro e w12 ⟨esm11, ckm11, rfl, MFm11, B_gN', hk⟩
            replace B_gW := kp_blk B_gW hk n_gW_gN
            replace B_g2 := kp_blk B_g2 hk (Ne.symm n_gN_g2)
            replace B_g6 := kp_blk B_g6 hk (Ne.symm n_gN_g6)
            replace O_D := Rv.rdv_keep O_D hk (fun k hk2 h2 => Nb_D_gN (by rw [show k = gN from h2] at hk2; exact hk2))
            replace K_0 := K_0.then_ hk (fun k h => by rw [show k = gN from h]; exact Or.inr z_0_gN)
            replace B_gN := B_gN'
            refine ⟨_, rfl, ?_⟩
            clear hE a; intro a hE
            refine ⟨⟨B_g6, trivial⟩, ?_⟩
            have hnb_gW := blk_lt B_gW
            have hnb_gN := blk_lt B_gN
            have hnb_g2 := blk_lt B_g2
            have hnb_g6 := blk_lt B_g6
            have hkz9 := K_0.kept.1
            refine d_one (by kernel_rfl) rfl (s_call (xs := [Operand.tmp 89, Operand.tmp 91, Operand.tmp 93]) (args := [Value.pointer (some ⟨g2, 0, none⟩), Value.int .i64 xs, Value.int .i64 xn]) p7_16_11 hE wn_none rfl rfl Try.func28 cl28 (rsend_any g2 A_D c_D L9 a0 a1 xs xn hwt _ B_g2 O_D hc_D (by omega) Nb_D_g2) ?_)
            rintro e w15 ⟨AD213, cD214, rfl, B_g2', O_D2, hc_D2, hg9, hk⟩
            replace B_gW := kp_blk B_gW hk n_gW_g2
            replace B_gN := kp_blk B_gN hk n_gN_g2
            replace B_g6 := kp_blk B_g6 hk (Ne.symm n_g2_g6)
            replace O_D := Rv.rdv_keep O_D hk (fun k hk2 h2 => Nb_D_g2 (by rw [show k = g2 from h2] at hk2; exact hk2))
            replace K_0 := K_0.then_ hk (fun k h => by rw [show k = g2 from h]; exact Or.inr z_0_g2)
            replace B_g2 := B_g2'
            have Nb_D2_gW : ¬ OB AD213 gW := fun h => (hg9 _ h).elim Nb_D_gW (fun h2 => by have := hnb_gW; omega)
            have Nb_D2_gN : ¬ OB AD213 gN := fun h => (hg9 _ h).elim Nb_D_gN (fun h2 => by have := hnb_gN; omega)
            have Nb_D2_g2 : ¬ OB AD213 g2 := fun h => (hg9 _ h).elim Nb_D_g2 (fun h2 => by have := hnb_g2; omega)
            have Nb_D2_g6 : ¬ OB AD213 g6 := fun h => (hg9 _ h).elim Nb_D_g6 (fun h2 => by have := hnb_g6; omega)
            have O_D := O_D2
            have hc_D := hc_D2
            have Nb_D_gW := Nb_D2_gW
            have Nb_D_gN := Nb_D2_gN
            have Nb_D_g2 := Nb_D2_g2
            have Nb_D_g6 := Nb_D2_g6
            refine ⟨_, rfl, ?_⟩
            clear hE a; intro a hE
            refine ⟨⟨B_g6, trivial⟩, ?_⟩
            refine d_take (v := Value.bool true) p7_16_12 ns7_16 (by kernel_rfl) (by kernel_rfl) (fun _ _ _ h => h) hE wn_none rfl ⟨B_g6, trivial⟩ (fun W hS => (st_eql (b := true) rfl rfl (by simp))) rfl ?_
            clear hE a; intro a hE
            refine d_take (v := Value.bool true) p7_16_13 ns7_16 (by kernel_rfl) (by kernel_rfl) (fun _ _ _ h => h) hE wn_none rfl ⟨B_g6, trivial⟩ (fun W hS => (st_assign rfl)) rfl ?_
            clear hE a; intro a hE
            refine d_end (by kernel_rfl) ?_
            refine x_normB ?_
            refine x_norm ?_
            refine c_reg R7_23_l ?_
            have hrel2 : Rel (sendL l9 a0 xs xn) (sendR L9 a0 xs xn) := (hrel.send a0 xs xn)
            have hok2 : Ok (sendL l9 a0 xs xn) := (ok_send hrel.keysl hokl hwt)
            have hlen9 : (sendL l9 a0 xs xn).length = (sendR L9 a0 xs xn).length := hrel2.len
            have hle2 := ok_len hrel2.keysl hok2
            refine q0 p7_23_0 hE (st_move rfl) ?_
            clear hE a; intro a hE
            have hnb_gW := blk_lt B_gW
            have hnb_gN := blk_lt B_gN
            have hnb_g2 := blk_lt B_g2
            have hnb_g6 := blk_lt B_g6
            have hnz_0 := K_0.kept.1
            have hno_D := fun k (h : OB AD213 k) => (Rv.rdv_ob O_D h).2
            refine p_cons (s_call (xs := [Operand.tmp 131]) (args := [Value.pointer (some ⟨gW, 0, none⟩)]) p7_23_1 hE wn_none rfl rfl Try.func26 cl26 (open_any gW gN ckm11 esm11 (sendL l9 a0 xs xn) a0 a1 _ (by omega) B_gW B_gN MFm11 n_gW_gN) ?_)
            rintro e w19 ⟨A17, c18, rfl, O_q16, hk⟩
            replace B_gW := kp_blk B_gW hk (fun h => h)
            replace B_gN := kp_blk B_gN hk (fun h => h)
            replace B_g2 := kp_blk B_g2 hk (fun h => h)
            replace B_g6 := kp_blk B_g6 hk (fun h => h)
            replace O_D := Rv.rdv_keep O_D hk (fun _ _ h => h)
            replace K_0 := K_0.then_ hk (fun _ h => h.elim)
            have Nb_q16_gW : ¬ OB A17 gW := fun h => by have := (own_ob O_q16 h).1; have := hnb_gW; omega
            have Nb_q16_gN : ¬ OB A17 gN := fun h => by have := (own_ob O_q16 h).1; have := hnb_gN; omega
            have Nb_q16_g2 : ¬ OB A17 g2 := fun h => by have := (own_ob O_q16 h).1; have := hnb_g2; omega
            have Nb_q16_g6 : ¬ OB A17 g6 := fun h => by have := (own_ob O_q16 h).1; have := hnb_g6; omega
            have Z_0_q16 : ∀ k, OB A17 k → (fun _ => False) k ∨ w.heap.size ≤ k := fun k h => .inr (by have := (own_ob O_q16 h).1; have := hnz_0; omega)
            have NN_q16_D : ∀ k, OB A17 k → ¬ OB AD213 k := fun k h h2 => by have := (own_ob O_q16 h).1; have := hno_D k h2; omega
            have NN_D_q16 : ∀ k, OB AD213 k → ¬ OB A17 k := fun k h h2 => NN_q16_D k h2 h
            replace O_q16 := own_lower O_q16 hnz_0
            refine ⟨_, rfl, ?_⟩
            clear hE a; intro a hE
            refine q0 p7_23_2 hE (st_assign rfl) ?_
            clear hE a; intro a hE
            refine p_nil ?_
            refine x_norm ?_
            refine wp_seq ?_
            refine c_reg R7_24_l ?_
            refine q0 p7_24_0 hE (st_move rfl) ?_
            clear hE a; intro a hE
            refine q0 p7_24_1 hE (st_not rfl rfl) ?_
            clear hE a; intro a hE
            refine q0 p7_24_2 hE (st_move rfl) ?_
            clear hE a; intro a hE
            refine p_cons (s_still p7_24_3 hE (wn_some g7_24_2 rfl rfl) rfl (st_move rfl) ?_)
            clear hE a; intro a hE
            refine p_cons (s_still p7_24_4 hE (wn_some g7_24_2 rfl rfl) rfl (st_len Try.underlying35 rfl) ?_)
            clear hE a; intro a hE
            refine p_cons (s_still p7_24_5 hE (wn_some g7_24_2 rfl rfl) rfl (st_move rfl) ?_)
            clear hE a; intro a hE
            refine p_cons (s_still p7_24_6 hE (wn_some g7_24_2 rfl rfl) rfl (st_nil rfl) ?_)
            clear hE a; intro a hE
            refine p_cons (s_still p7_24_7 hE (wn_some g7_24_2 rfl rfl) rfl (st_fieldAddr Try.underlying66 rfl tS64 rfl rfl) ?_)
            clear hE a; intro a hE
            refine p_cons (s_still p7_24_8 hE (wn_some g7_24_2 rfl rfl) rfl (st_load1 tA64 rfl ((blk_cell B_g2 2).trans rfl)) ?_)
            clear hE a; intro a hE
            refine p_cons (s_still p7_24_9 hE (wn_some g7_24_2 rfl rfl) rfl (st_len Try.underlying64 rfl) ?_)
            clear hE a; intro a hE
            refine p_cons (s_still p7_24_10 hE (wn_some g7_24_2 rfl rfl) rfl (st_neq (b := false) rfl rfl (by rw [hlen9]; simp)) ?_)
            clear hE a; intro a hE
            refine q0 p7_24_11 hE (st_pick rfl rfl) ?_
            clear hE a; intro a hE
            refine p_nil ?_
            refine x_norm ?_
            refine c_cond (t := false) hE rfl ?_
            refine wp_skip ?_
            refine x_norm ?_
            refine c_reg R7_26_l ?_
            refine q0 p7_26_0 hE (st_assign rfl) ?_
            clear hE a; intro a hE
            refine p_nil ?_
            refine x_norm ?_
            refine wp_block ?_
            refine c_loop (α := Nat) (fun k a W => En 165 a [(0, Value.int .i64 a0), (1, Value.int .i64 a1), (2, Value.slice a2 z2.length cap2), (7, Value.pointer (some ⟨gW, 0, none⟩)), (8, Value.int .i64 0), (38, Value.bool false), (53, Value.bool false), (9, Value.pointer (some ⟨g2, 0, none⟩)), (10, Value.int .i64 (i : Int)), (65, Value.bool true), (11, Value.pointer (some ⟨g6, 0, none⟩)), (12, Value.bool true), (75, Value.int .u64 (xk % 18446744073709551616 % 4)), (81, Value.bool true), (17, Value.slice A17 ((sendL l9 a0 xs xn).length) c18), (144, Value.bool false), (18, Value.int .i64 (k : Int))] ∧ k ≤ (sendL l9 a0 xs xn).length ∧ W.heap[gW]? = some (.cells #[Value.int .i64 a0, Value.int .i64 a1, Value.map (some gN)] 82 (0, 0)) ∧ W.heap[gN]? = some (.map esm11 ckm11) ∧ W.heap[g2]? = some (.cells #[Value.int .i64 a0, Value.int .i64 a1, Value.slice AD213 ((sendR L9 a0 xs xn).length) cD214] 66 (0, 0)) ∧ W.heap[g6]? = some (.cells #[Value.int .i64 xk, Value.int .i64 xs, Value.int .i64 xn] 68 (0, 0)) ∧ Rv.RdV W AD213 ((sendR L9 a0 xs xn).length) 3 (flO (sendR L9 a0 xs xn)) ∧ ¬ OB AD213 gW ∧ ¬ OB AD213 gN ∧ ¬ OB AD213 g2 ∧ ¬ OB AD213 g6 ∧ (∀ k, OB AD213 k → ¬ OB A17 k) ∧ W.ownsRow w.heap.size 3 1 (.slice A17 ((sendL l9 a0 xs xn).length) c18) ((sendL l9 a0 xs xn).length) (encs (Value.int .i64) (Ms.ks (sendL l9 a0 xs xn))) ∧ ¬ OB A17 gW ∧ ¬ OB A17 gN ∧ ¬ OB A17 g2 ∧ ¬ OB A17 g6 ∧ (∀ k, OB A17 k → (fun _ => False) k ∨ w.heap.size ≤ k) ∧ (∀ k, OB A17 k → ¬ OB AD213 k) ∧ Kp w W (fun _ => False)) (fun k => (sendL l9 a0 xs xn).length - k) (0) ?_ ?_
            ·
              exact ⟨En.sub hE ⟨rfl, rfl, rfl, rfl, rfl, rfl, rfl, rfl, rfl, rfl, rfl, rfl, rfl, rfl, rfl, rfl, rfl, trivial⟩, Nat.zero_le _, B_gW, B_gN, B_g2, B_g6, O_D, Nb_D_gW, Nb_D_gN, Nb_D_g2, Nb_D_g6, NN_D_q16, O_q16, Nb_q16_gW, Nb_q16_gN, Nb_q16_g2, Nb_q16_g6, Z_0_q16, NN_q16_D, K_0⟩
            ·
              clear hE a
              rintro k a w20 ⟨hE, hk9, B_gW, B_gN, B_g2, B_g6, O_D, Nb_D_gW, Nb_D_gN, Nb_D_g2, Nb_D_g6, NN_D_q16, O_q16, Nb_q16_gW, Nb_q16_gN, Nb_q16_g2, Nb_q16_g6, Z_0_q16, NN_q16_D, K_0⟩
              refine wp_seq ?_
              rcases Decidable.em ((k : Int) < ((sendL l9 a0 xs xn).length : Int)) with hK1 | hK1
              ·
                refine c_reg R7_27_l ?_
                refine q0 p7_27_0 hE (st_move rfl) ?_
                clear hE a; intro a hE
                refine q0 p7_27_1 hE (st_move rfl) ?_
                clear hE a; intro a hE
                refine q0 p7_27_2 hE (st_len Try.underlying35 rfl) ?_
                clear hE a; intro a hE
                refine q0 p7_27_3 hE (st_lss (b := true) rfl rfl (decide_eq_true hK1)) ?_
                clear hE a; intro a hE
                refine p_nil ?_
                refine x_norm ?_
                refine c_cond (t := true) hE rfl ?_
                refine wp_skip ?_
                refine x_norm ?_
                refine wp_seq ?_
                refine wp_block ?_
                obtain ⟨o, hxk⟩ : ∃ o, (sendR L9 a0 xs xn)[k]? = some o := ⟨_, List.getElem?_eq_getElem (by omega)⟩
                have hAek := (Rv.rdv_elem (fl := fl3) O_D (by decide) (fun _ => rfl) hxk).1
                have hrd9 : rd (Ms.ks (sendL l9 a0 xs xn)) (k : Int) = o.1 := by unfold rd; rw [hrel2.ks, Int.toNat_natCast, List.getD_eq_getElem?_getD, List.getElem?_map, hxk]; rfl
                refine c_drawS (S := fun W => W.heap[g2]? = some (.cells #[Value.int .i64 a0, Value.int .i64 a1, Value.slice AD213 ((sendR L9 a0 xs xn).length) cD214] 66 (0, 0)) ∧ Kd.C (Kd.int .i64) W A17 ((sendL l9 a0 xs xn).length) (Ms.ks (sendL l9 a0 xs xn)) ∧ (∀ j u, ([Value.int .i64 o.1, Value.int .i64 o.2.1, Value.int .i64 o.2.2])[j]? = some u → W.cell? (ea AD213 (k * 3 + j)) = some u) ∧ True) rfl rfl (listed := #[false, false, false, false, false, false, false, false, false, false, false, false, false]) rfl ?_
                intro w21 hh hk
                replace B_gW := kp_blk B_gW hk (fun h => h)
                replace B_gN := kp_blk B_gN hk (fun h => h)
                replace B_g2 := kp_blk B_g2 hk (fun h => h)
                replace B_g6 := kp_blk B_g6 hk (fun h => h)
                replace O_D := Rv.rdv_keep O_D hk (fun _ _ h => h)
                replace O_q16 := own_keep O_q16 hk (fun _ _ h => h)
                replace K_0 := K_0.then_ hk (fun _ h => h.elim)
                clear hh hk
                refine d_take (v := Value.slice A17 ((sendL l9 a0 xs xn).length) c18) p7_29_0 ns7_29 (by kernel_rfl) (by kernel_rfl) (fun _ _ _ h => h) hE wn_none rfl ⟨B_g2, (own_told O_q16), (Rv.rdv_elem (fl := fl3) O_D (by decide) (fun _ => rfl) hxk).2, trivial⟩ (fun W hS => (st_move rfl)) rfl ?_
                clear hE a; intro a hE
                refine d_take (v := Value.int .i64 (k : Int)) p7_29_1 ns7_29 (by kernel_rfl) (by kernel_rfl) (fun _ _ _ h => h) hE wn_none rfl ⟨B_g2, (own_told O_q16), (Rv.rdv_elem (fl := fl3) O_D (by decide) (fun _ => rfl) hxk).2, trivial⟩ (fun W hS => (st_move rfl)) rfl ?_
                clear hE a; intro a hE
                refine d_take (v := Value.pointer (some (ea A17 k))) p7_29_2 ns7_29 (by kernel_rfl) (by kernel_rfl) (fun _ _ _ h => h) hE wn_none rfl ⟨B_g2, (own_told O_q16), (Rv.rdv_elem (fl := fl3) O_D (by decide) (fun _ => rfl) hxk).2, trivial⟩ (fun W hS => (st_indexAddrS (i := k) Try.underlying35 tS3 (C_at (own_told O_q16) (show k < _ by omega)).1 rfl rfl (by omega))) rfl ?_
                clear hE a; intro a hE
                refine d_take (v := Value.int .i64 (rd (Ms.ks (sendL l9 a0 xs xn)) (k : Int))) p7_29_3 ns7_29 (by kernel_rfl) (by kernel_rfl) (fun _ _ _ h => h) hE wn_none rfl ⟨B_g2, (own_told O_q16), (Rv.rdv_elem (fl := fl3) O_D (by decide) (fun _ => rfl) hxk).2, trivial⟩ (fun W hS => (st_loadC (i := k) tA3 (hS.2.1) (by omega) rfl)) rfl ?_
                clear hE a; intro a hE
                refine d_take (v := Value.pointer (some ⟨g2, 0, none⟩)) p7_29_4 ns7_29 (by kernel_rfl) (by kernel_rfl) (fun _ _ _ h => h) hE wn_none rfl ⟨B_g2, (own_told O_q16), (Rv.rdv_elem (fl := fl3) O_D (by decide) (fun _ => rfl) hxk).2, trivial⟩ (fun W hS => (st_move rfl)) rfl ?_
                clear hE a; intro a hE
                refine d_take (v := Value.pointer (some ⟨g2, 0, none⟩)) p7_29_5 ns7_29 (by kernel_rfl) (by kernel_rfl) (fun _ _ _ h => h) hE wn_none rfl ⟨B_g2, (own_told O_q16), (Rv.rdv_elem (fl := fl3) O_D (by decide) (fun _ => rfl) hxk).2, trivial⟩ (fun W hS => (st_nil rfl)) rfl ?_
                clear hE a; intro a hE
                refine d_take (v := Value.pointer (some ⟨g2, 2, none⟩)) p7_29_6 ns7_29 (by kernel_rfl) (by kernel_rfl) (fun _ _ _ h => h) hE wn_none rfl ⟨B_g2, (own_told O_q16), (Rv.rdv_elem (fl := fl3) O_D (by decide) (fun _ => rfl) hxk).2, trivial⟩ (fun W hS => (st_fieldAddr Try.underlying66 rfl tS64 rfl rfl)) rfl ?_
                clear hE a; intro a hE
                refine d_take (v := Value.slice AD213 ((sendR L9 a0 xs xn).length) cD214) p7_29_7 ns7_29 (by kernel_rfl) (by kernel_rfl) (fun _ _ _ h => h) hE wn_none rfl ⟨B_g2, (own_told O_q16), (Rv.rdv_elem (fl := fl3) O_D (by decide) (fun _ => rfl) hxk).2, trivial⟩ (fun W hS => (st_load1 tA64 rfl ((blk_cell hS.1 2).trans rfl))) rfl ?_
                clear hE a; intro a hE
                refine d_take (v := Value.int .i64 (k : Int)) p7_29_8 ns7_29 (by kernel_rfl) (by kernel_rfl) (fun _ _ _ h => h) hE wn_none rfl ⟨B_g2, (own_told O_q16), (Rv.rdv_elem (fl := fl3) O_D (by decide) (fun _ => rfl) hxk).2, trivial⟩ (fun W hS => (st_move rfl)) rfl ?_
                clear hE a; intro a hE
                refine d_take (v := Value.pointer (some (ea AD213 (k * 3)))) p7_29_9 ns7_29 (by kernel_rfl) (by kernel_rfl) (fun _ _ _ h => h) hE wn_none rfl ⟨B_g2, (own_told O_q16), (Rv.rdv_elem (fl := fl3) O_D (by decide) (fun _ => rfl) hxk).2, trivial⟩ (fun W hS => (st_indexAddrR (i := k) (s := 3) Try.underlying64 tS70 hAek rfl rfl (by omega))) rfl ?_
                clear hE a; intro a hE
                refine d_take (v := Value.pointer (some (ea AD213 (k * 3)))) p7_29_10 ns7_29 (by kernel_rfl) (by kernel_rfl) (fun _ _ _ h => h) hE wn_none rfl ⟨B_g2, (own_told O_q16), (Rv.rdv_elem (fl := fl3) O_D (by decide) (fun _ => rfl) hxk).2, trivial⟩ (fun W hS => (st_fieldAddrR (off := k * 3) (f0 := 0) (o' := k * 3) Try.underlying70 rfl tS3 rfl (by omega) rfl)) rfl ?_
                clear hE a; intro a hE
                refine d_take (v := Value.int .i64 o.1) p7_29_11 ns7_29 (by kernel_rfl) (by kernel_rfl) (fun _ _ _ h => h) hE wn_none rfl ⟨B_g2, (own_told O_q16), (Rv.rdv_elem (fl := fl3) O_D (by decide) (fun _ => rfl) hxk).2, trivial⟩ (fun W hS => (st_loadR1 (off := k * 3) (j := 0) tA3 (hS.2.2.1) rfl (by omega) rfl)) rfl ?_
                clear hE a; intro a hE
                refine d_take (v := Value.bool false) p7_29_12 ns7_29 (by kernel_rfl) (by kernel_rfl) (fun _ _ _ h => h) hE wn_none rfl ⟨B_g2, (own_told O_q16), (Rv.rdv_elem (fl := fl3) O_D (by decide) (fun _ => rfl) hxk).2, trivial⟩ (fun W hS => (st_neq (b := false) rfl rfl (by rw [hrd9]; simp))) rfl ?_
                clear hE a; intro a hE
                refine d_end (by kernel_rfl) ?_
                refine x_norm ?_
                refine c_cond (t := false) hE rfl ?_
                refine wp_skip ?_
                refine x_normB ?_
                refine x_norm ?_
                refine c_regL R7_28_l ?_
                refine q0 p7_28_0 hE (st_move rfl) ?_
                clear hE a; intro a hE
                refine q0 p7_28_1 hE (st_add (z := (k : Int) + 1) rfl rfl (wr_i64 _ (by omega) (by omega))) ?_
                clear hE a; intro a hE
                refine q0 p7_28_2 hE (st_assign rfl) ?_
                clear hE a; intro a hE
                refine p_nil ?_
                refine x_norm ?_
                exact ⟨k + 1, by omega, En.sub hE ⟨rfl, rfl, rfl, rfl, rfl, rfl, rfl, rfl, rfl, rfl, rfl, rfl, rfl, rfl, rfl, rfl, rfl, trivial⟩, by omega, B_gW, B_gN, B_g2, B_g6, O_D, Nb_D_gW, Nb_D_gN, Nb_D_g2, Nb_D_g6, NN_D_q16, O_q16, Nb_q16_gW, Nb_q16_gN, Nb_q16_g2, Nb_q16_g6, Z_0_q16, NN_q16_D, K_0⟩
              ·
                refine c_reg R7_27_l ?_
                refine q0 p7_27_0 hE (st_move rfl) ?_
                clear hE a; intro a hE
                refine q0 p7_27_1 hE (st_move rfl) ?_
                clear hE a; intro a hE
                refine q0 p7_27_2 hE (st_len Try.underlying35 rfl) ?_
                clear hE a; intro a hE
                refine q0 p7_27_3 hE (st_lss (b := false) rfl rfl (decide_eq_false hK1)) ?_
                clear hE a; intro a hE
                refine p_nil ?_
                refine x_norm ?_
                refine c_cond (t := false) hE rfl ?_
                refine wp_exit ?_
                refine x_exit ?_
                refine x_exit ?_
                refine x_in ?_
                refine x_normB ?_
                refine x_norm ?_
                refine c_regL R7_9_l ?_
                refine q0 p7_9_0 hE (st_move rfl) ?_
                clear hE a; intro a hE
                refine q0 p7_9_1 hE (st_add (z := (i : Int) + 1) rfl rfl (wr_i64 _ (by omega) (by omega))) ?_
                clear hE a; intro a hE
                refine q0 p7_9_2 hE (st_assign rfl) ?_
                clear hE a; intro a hE
                refine p_nil ?_
                refine x_norm ?_
                exact ⟨i + 1, by omega, AD213, cD214, (sendR L9 a0 xs xn).length, esm11, ckm11, (sendL l9 a0 xs xn), (sendR L9 a0 xs xn), En.sub hE ⟨rfl, rfl, rfl, rfl, rfl, rfl, rfl, rfl, rfl, trivial⟩, MFm11, hrel2, hok2, rfl, hc_D, by omega, B_gW, B_gN, B_g2, O_D, Nb_D_gW, Nb_D_gN, Nb_D_g2, K_0⟩
          ·
            refine c_reg R7_15_l ?_
            refine q0 p7_15_0 hE (st_eql (b := false) rfl rfl (decide_eq_false hKA)) ?_
            clear hE a; intro a hE
            refine q0 p7_15_1 hE (st_assign rfl) ?_
            clear hE a; intro a hE
            refine p_nil ?_
            refine x_norm ?_
            refine c_cond (t := false) hE rfl ?_
            rcases Decidable.em ((xk % 18446744073709551616 % 4) = 1) with hKB | hKB
            ·
              refine c_reg R7_17_l ?_
              refine q0 p7_17_0 hE (st_eql (b := true) rfl rfl (decide_eq_true hKB)) ?_
              clear hE a; intro a hE
              refine q0 p7_17_1 hE (st_assign rfl) ?_
              clear hE a; intro a hE
              refine p_nil ?_
              refine x_norm ?_
              refine c_cond (t := true) hE rfl ?_
              refine c_draw (S := fun W => W.heap[g6]? = some (.cells #[Value.int .i64 xk, Value.int .i64 xs, Value.int .i64 xn] 68 (0, 0)) ∧ True) rfl rfl (listed := #[false, false, false, false, false, false, false, false, false, false]) rfl ?_
              intro w22 hh hk
              replace B_gW := kp_blk B_gW hk (fun h => h)
              replace B_gN := kp_blk B_gN hk (fun h => h)
              replace B_g2 := kp_blk B_g2 hk (fun h => h)
              replace B_g6 := kp_blk B_g6 hk (fun h => h)
              replace O_D := Rv.rdv_keep O_D hk (fun _ _ h => h)
              replace K_0 := K_0.then_ hk (fun _ h => h.elim)
              clear hh hk
              refine d_take (v := Value.pointer (some ⟨gW, 0, none⟩)) p7_18_0 ns7_18 (by kernel_rfl) (by kernel_rfl) (fun _ _ _ h => h) hE wn_none rfl ⟨B_g6, trivial⟩ (fun W hS => (st_move rfl)) rfl ?_
              clear hE a; intro a hE
              refine d_take (v := Value.pointer (some ⟨g6, 1, none⟩)) p7_18_1 ns7_18 (by kernel_rfl) (by kernel_rfl) (fun _ _ _ h => h) hE wn_none rfl ⟨B_g6, trivial⟩ (fun W hS => (st_fieldAddr Try.underlying68 rfl tS3 rfl rfl)) rfl ?_
              clear hE a; intro a hE
              refine d_take (v := Value.int .i64 xs) p7_18_2 ns7_18 (by kernel_rfl) (by kernel_rfl) (fun _ _ _ h => h) hE wn_none rfl ⟨B_g6, trivial⟩ (fun W hS => (st_load1 tA3 rfl ((blk_cell hS.1 1).trans rfl))) rfl ?_
              clear hE a; intro a hE
              refine d_take (v := Value.pointer (some ⟨g2, 0, none⟩)) p7_18_4 ns7_18 (by kernel_rfl) (by kernel_rfl) (fun _ _ _ h => h) hE wn_none rfl ⟨B_g6, trivial⟩ (fun W hS => (st_move rfl)) rfl ?_
              clear hE a; intro a hE
              refine d_take (v := Value.pointer (some ⟨g6, 1, none⟩)) p7_18_5 ns7_18 (by kernel_rfl) (by kernel_rfl) (fun _ _ _ h => h) hE wn_none rfl ⟨B_g6, trivial⟩ (fun W hS => (st_fieldAddr Try.underlying68 rfl tS3 rfl rfl)) rfl ?_
              clear hE a; intro a hE
              refine d_take (v := Value.int .i64 xs) p7_18_6 ns7_18 (by kernel_rfl) (by kernel_rfl) (fun _ _ _ h => h) hE wn_none rfl ⟨B_g6, trivial⟩ (fun W hS => (st_load1 tA3 rfl ((blk_cell hS.1 1).trans rfl))) rfl ?_
              clear hE a; intro a hE
              refine d_one (by kernel_rfl) rfl (s_call (xs := [Operand.tmp 98, Operand.tmp 100]) (args := [Value.pointer (some ⟨gW, 0, none⟩), Value.int .i64 xs]) p7_18_3 hE wn_none rfl rfl Try.func27 cl27 (ack_any gW gN ck9 es9 l9 a0 a1 xs _ B_gW B_gN MF9 n_gW_gN) ?_)
              rintro e w24 ⟨esm23, ckm23, rfl, MFm23, B_gN', hk⟩
              replace B_gW := kp_blk B_gW hk n_gW_gN
              replace B_g2 := kp_blk B_g2 hk (Ne.symm n_gN_g2)
              replace B_g6 := kp_blk B_g6 hk (Ne.symm n_gN_g6)
              replace O_D := Rv.rdv_keep O_D hk (fun k hk2 h2 => Nb_D_gN (by rw [show k = gN from h2] at hk2; exact hk2))
              replace K_0 := K_0.then_ hk (fun k h => by rw [show k = gN from h]; exact Or.inr z_0_gN)
              replace B_gN := B_gN'
              refine ⟨_, rfl, ?_⟩
              clear hE a; intro a hE
              refine ⟨⟨B_g6, trivial⟩, ?_⟩
              have hnb_gW := blk_lt B_gW
              have hnb_gN := blk_lt B_gN
              have hnb_g2 := blk_lt B_g2
              have hnb_g6 := blk_lt B_g6
              have hkz9 := K_0.kept.1
              have hct := rack_any g2 A_D c_D L9 a0 a1 xs w24 B_g2 O_D hc_D (by omega) Nb_D_g2
              rw [hrel.has] at hct
              refine d_one (by kernel_rfl) rfl (s_call (xs := [Operand.tmp 102, Operand.tmp 104]) (args := [Value.pointer (some ⟨g2, 0, none⟩), Value.int .i64 xs]) p7_18_7 hE wn_none rfl rfl Try.func29 cl29 (hct) ?_)
              rintro e w27 ⟨AD225, cD226, rfl, B_g2', O_D2, hc_D2, hg9, hk⟩
              replace B_gW := kp_blk B_gW hk n_gW_g2
              replace B_gN := kp_blk B_gN hk n_gN_g2
              replace B_g6 := kp_blk B_g6 hk (Ne.symm n_g2_g6)
              replace O_D := Rv.rdv_keep O_D hk (fun k hk2 h2 => Nb_D_g2 (by rw [show k = g2 from h2] at hk2; exact hk2))
              replace K_0 := K_0.then_ hk (fun k h => by rw [show k = g2 from h]; exact Or.inr z_0_g2)
              replace B_g2 := B_g2'
              have Nb_D2_gW : ¬ OB AD225 gW := fun h => (hg9 _ h).elim Nb_D_gW (fun h2 => by have := hnb_gW; omega)
              have Nb_D2_gN : ¬ OB AD225 gN := fun h => (hg9 _ h).elim Nb_D_gN (fun h2 => by have := hnb_gN; omega)
              have Nb_D2_g2 : ¬ OB AD225 g2 := fun h => (hg9 _ h).elim Nb_D_g2 (fun h2 => by have := hnb_g2; omega)
              have Nb_D2_g6 : ¬ OB AD225 g6 := fun h => (hg9 _ h).elim Nb_D_g6 (fun h2 => by have := hnb_g6; omega)
              have O_D := O_D2
              have hc_D := hc_D2
              have Nb_D_gW := Nb_D2_gW
              have Nb_D_gN := Nb_D2_gN
              have Nb_D_g2 := Nb_D2_g2
              have Nb_D_g6 := Nb_D2_g6
              refine ⟨_, rfl, ?_⟩
              clear hE a; intro a hE
              refine ⟨⟨B_g6, trivial⟩, ?_⟩
              refine d_take (v := Value.bool true) p7_18_8 ns7_18 (by kernel_rfl) (by kernel_rfl) (fun _ _ _ h => h) hE wn_none rfl ⟨B_g6, trivial⟩ (fun W hS => (st_eqlB (b := true) Try.underlying4 rfl rfl (by simp))) rfl ?_
              clear hE a; intro a hE
              refine d_take (v := Value.bool true) p7_18_9 ns7_18 (by kernel_rfl) (by kernel_rfl) (fun _ _ _ h => h) hE wn_none rfl ⟨B_g6, trivial⟩ (fun W hS => (st_assign rfl)) rfl ?_
              clear hE a; intro a hE
              refine d_end (by kernel_rfl) ?_
              refine x_normB ?_
              refine x_norm ?_
              refine c_reg R7_23_l ?_
              have hrel2 : Rel (delI l9 xs) (rmL L9 xs) := (hrel.del xs)
              have hok2 : Ok (delI l9 xs) := (ok_del hokl _)
              have hlen9 : (delI l9 xs).length = (rmL L9 xs).length := hrel2.len
              have hle2 := ok_len hrel2.keysl hok2
              refine q0 p7_23_0 hE (st_move rfl) ?_
              clear hE a; intro a hE
              have hnb_gW := blk_lt B_gW
              have hnb_gN := blk_lt B_gN
              have hnb_g2 := blk_lt B_g2
              have hnb_g6 := blk_lt B_g6
              have hnz_0 := K_0.kept.1
              have hno_D := fun k (h : OB AD225 k) => (Rv.rdv_ob O_D h).2
              refine p_cons (s_call (xs := [Operand.tmp 131]) (args := [Value.pointer (some ⟨gW, 0, none⟩)]) p7_23_1 hE wn_none rfl rfl Try.func26 cl26 (open_any gW gN ckm23 esm23 (delI l9 xs) a0 a1 _ (by omega) B_gW B_gN MFm23 n_gW_gN) ?_)
              rintro e w31 ⟨A29, c30, rfl, O_q28, hk⟩
              replace B_gW := kp_blk B_gW hk (fun h => h)
              replace B_gN := kp_blk B_gN hk (fun h => h)
              replace B_g2 := kp_blk B_g2 hk (fun h => h)
              replace B_g6 := kp_blk B_g6 hk (fun h => h)
              replace O_D := Rv.rdv_keep O_D hk (fun _ _ h => h)
              replace K_0 := K_0.then_ hk (fun _ h => h.elim)
              have Nb_q28_gW : ¬ OB A29 gW := fun h => by have := (own_ob O_q28 h).1; have := hnb_gW; omega
              have Nb_q28_gN : ¬ OB A29 gN := fun h => by have := (own_ob O_q28 h).1; have := hnb_gN; omega
              have Nb_q28_g2 : ¬ OB A29 g2 := fun h => by have := (own_ob O_q28 h).1; have := hnb_g2; omega
              have Nb_q28_g6 : ¬ OB A29 g6 := fun h => by have := (own_ob O_q28 h).1; have := hnb_g6; omega
              have Z_0_q28 : ∀ k, OB A29 k → (fun _ => False) k ∨ w.heap.size ≤ k := fun k h => .inr (by have := (own_ob O_q28 h).1; have := hnz_0; omega)
              have NN_q28_D : ∀ k, OB A29 k → ¬ OB AD225 k := fun k h h2 => by have := (own_ob O_q28 h).1; have := hno_D k h2; omega
              have NN_D_q28 : ∀ k, OB AD225 k → ¬ OB A29 k := fun k h h2 => NN_q28_D k h2 h
              replace O_q28 := own_lower O_q28 hnz_0
              refine ⟨_, rfl, ?_⟩
              clear hE a; intro a hE
              refine q0 p7_23_2 hE (st_assign rfl) ?_
              clear hE a; intro a hE
              refine p_nil ?_
              refine x_norm ?_
              refine wp_seq ?_
              refine c_reg R7_24_l ?_
              refine q0 p7_24_0 hE (st_move rfl) ?_
              clear hE a; intro a hE
              refine q0 p7_24_1 hE (st_not rfl rfl) ?_
              clear hE a; intro a hE
              refine q0 p7_24_2 hE (st_move rfl) ?_
              clear hE a; intro a hE
              refine p_cons (s_still p7_24_3 hE (wn_some g7_24_2 rfl rfl) rfl (st_move rfl) ?_)
              clear hE a; intro a hE
              refine p_cons (s_still p7_24_4 hE (wn_some g7_24_2 rfl rfl) rfl (st_len Try.underlying35 rfl) ?_)
              clear hE a; intro a hE
              refine p_cons (s_still p7_24_5 hE (wn_some g7_24_2 rfl rfl) rfl (st_move rfl) ?_)
              clear hE a; intro a hE
              refine p_cons (s_still p7_24_6 hE (wn_some g7_24_2 rfl rfl) rfl (st_nil rfl) ?_)
              clear hE a; intro a hE
              refine p_cons (s_still p7_24_7 hE (wn_some g7_24_2 rfl rfl) rfl (st_fieldAddr Try.underlying66 rfl tS64 rfl rfl) ?_)
              clear hE a; intro a hE
              refine p_cons (s_still p7_24_8 hE (wn_some g7_24_2 rfl rfl) rfl (st_load1 tA64 rfl ((blk_cell B_g2 2).trans rfl)) ?_)
              clear hE a; intro a hE
              refine p_cons (s_still p7_24_9 hE (wn_some g7_24_2 rfl rfl) rfl (st_len Try.underlying64 rfl) ?_)
              clear hE a; intro a hE
              refine p_cons (s_still p7_24_10 hE (wn_some g7_24_2 rfl rfl) rfl (st_neq (b := false) rfl rfl (by rw [hlen9]; simp)) ?_)
              clear hE a; intro a hE
              refine q0 p7_24_11 hE (st_pick rfl rfl) ?_
              clear hE a; intro a hE
              refine p_nil ?_
              refine x_norm ?_
              refine c_cond (t := false) hE rfl ?_
              refine wp_skip ?_
              refine x_norm ?_
              refine c_reg R7_26_l ?_
              refine q0 p7_26_0 hE (st_assign rfl) ?_
              clear hE a; intro a hE
              refine p_nil ?_
              refine x_norm ?_
              refine wp_block ?_
              refine c_loop (α := Nat) (fun k a W => En 165 a [(0, Value.int .i64 a0), (1, Value.int .i64 a1), (2, Value.slice a2 z2.length cap2), (7, Value.pointer (some ⟨gW, 0, none⟩)), (8, Value.int .i64 0), (38, Value.bool false), (53, Value.bool false), (9, Value.pointer (some ⟨g2, 0, none⟩)), (10, Value.int .i64 (i : Int)), (65, Value.bool true), (11, Value.pointer (some ⟨g6, 0, none⟩)), (12, Value.bool true), (75, Value.int .u64 (xk % 18446744073709551616 % 4)), (81, Value.bool false), (96, Value.bool true), (17, Value.slice A29 ((delI l9 xs).length) c30), (144, Value.bool false), (18, Value.int .i64 (k : Int))] ∧ k ≤ (delI l9 xs).length ∧ W.heap[gW]? = some (.cells #[Value.int .i64 a0, Value.int .i64 a1, Value.map (some gN)] 82 (0, 0)) ∧ W.heap[gN]? = some (.map esm23 ckm23) ∧ W.heap[g2]? = some (.cells #[Value.int .i64 a0, Value.int .i64 a1, Value.slice AD225 ((rmL L9 xs).length) cD226] 66 (0, 0)) ∧ W.heap[g6]? = some (.cells #[Value.int .i64 xk, Value.int .i64 xs, Value.int .i64 xn] 68 (0, 0)) ∧ Rv.RdV W AD225 ((rmL L9 xs).length) 3 (flO (rmL L9 xs)) ∧ ¬ OB AD225 gW ∧ ¬ OB AD225 gN ∧ ¬ OB AD225 g2 ∧ ¬ OB AD225 g6 ∧ (∀ k, OB AD225 k → ¬ OB A29 k) ∧ W.ownsRow w.heap.size 3 1 (.slice A29 ((delI l9 xs).length) c30) ((delI l9 xs).length) (encs (Value.int .i64) (Ms.ks (delI l9 xs))) ∧ ¬ OB A29 gW ∧ ¬ OB A29 gN ∧ ¬ OB A29 g2 ∧ ¬ OB A29 g6 ∧ (∀ k, OB A29 k → (fun _ => False) k ∨ w.heap.size ≤ k) ∧ (∀ k, OB A29 k → ¬ OB AD225 k) ∧ Kp w W (fun _ => False)) (fun k => (delI l9 xs).length - k) (0) ?_ ?_
              ·
                exact ⟨En.sub hE ⟨rfl, rfl, rfl, rfl, rfl, rfl, rfl, rfl, rfl, rfl, rfl, rfl, rfl, rfl, rfl, rfl, rfl, rfl, trivial⟩, Nat.zero_le _, B_gW, B_gN, B_g2, B_g6, O_D, Nb_D_gW, Nb_D_gN, Nb_D_g2, Nb_D_g6, NN_D_q28, O_q28, Nb_q28_gW, Nb_q28_gN, Nb_q28_g2, Nb_q28_g6, Z_0_q28, NN_q28_D, K_0⟩
              ·
                clear hE a
                rintro k a w32 ⟨hE, hk9, B_gW, B_gN, B_g2, B_g6, O_D, Nb_D_gW, Nb_D_gN, Nb_D_g2, Nb_D_g6, NN_D_q28, O_q28, Nb_q28_gW, Nb_q28_gN, Nb_q28_g2, Nb_q28_g6, Z_0_q28, NN_q28_D, K_0⟩
                refine wp_seq ?_
                rcases Decidable.em ((k : Int) < ((delI l9 xs).length : Int)) with hK1 | hK1
                ·
                  refine c_reg R7_27_l ?_
                  refine q0 p7_27_0 hE (st_move rfl) ?_
                  clear hE a; intro a hE
                  refine q0 p7_27_1 hE (st_move rfl) ?_
                  clear hE a; intro a hE
                  refine q0 p7_27_2 hE (st_len Try.underlying35 rfl) ?_
                  clear hE a; intro a hE
                  refine q0 p7_27_3 hE (st_lss (b := true) rfl rfl (decide_eq_true hK1)) ?_
                  clear hE a; intro a hE
                  refine p_nil ?_
                  refine x_norm ?_
                  refine c_cond (t := true) hE rfl ?_
                  refine wp_skip ?_
                  refine x_norm ?_
                  refine wp_seq ?_
                  refine wp_block ?_
                  obtain ⟨o, hxk⟩ : ∃ o, (rmL L9 xs)[k]? = some o := ⟨_, List.getElem?_eq_getElem (by omega)⟩
                  have hAek := (Rv.rdv_elem (fl := fl3) O_D (by decide) (fun _ => rfl) hxk).1
                  have hrd9 : rd (Ms.ks (delI l9 xs)) (k : Int) = o.1 := by unfold rd; rw [hrel2.ks, Int.toNat_natCast, List.getD_eq_getElem?_getD, List.getElem?_map, hxk]; rfl
                  refine c_drawS (S := fun W => W.heap[g2]? = some (.cells #[Value.int .i64 a0, Value.int .i64 a1, Value.slice AD225 ((rmL L9 xs).length) cD226] 66 (0, 0)) ∧ Kd.C (Kd.int .i64) W A29 ((delI l9 xs).length) (Ms.ks (delI l9 xs)) ∧ (∀ j u, ([Value.int .i64 o.1, Value.int .i64 o.2.1, Value.int .i64 o.2.2])[j]? = some u → W.cell? (ea AD225 (k * 3 + j)) = some u) ∧ True) rfl rfl (listed := #[false, false, false, false, false, false, false, false, false, false, false, false, false]) rfl ?_
                  intro w33 hh hk
                  replace B_gW := kp_blk B_gW hk (fun h => h)
                  replace B_gN := kp_blk B_gN hk (fun h => h)
                  replace B_g2 := kp_blk B_g2 hk (fun h => h)
                  replace B_g6 := kp_blk B_g6 hk (fun h => h)
                  replace O_D := Rv.rdv_keep O_D hk (fun _ _ h => h)
                  replace O_q28 := own_keep O_q28 hk (fun _ _ h => h)
                  replace K_0 := K_0.then_ hk (fun _ h => h.elim)
                  clear hh hk
                  refine d_take (v := Value.slice A29 ((delI l9 xs).length) c30) p7_29_0 ns7_29 (by kernel_rfl) (by kernel_rfl) (fun _ _ _ h => h) hE wn_none rfl ⟨B_g2, (own_told O_q28), (Rv.rdv_elem (fl := fl3) O_D (by decide) (fun _ => rfl) hxk).2, trivial⟩ (fun W hS => (st_move rfl)) rfl ?_
                  clear hE a; intro a hE
                  refine d_take (v := Value.int .i64 (k : Int)) p7_29_1 ns7_29 (by kernel_rfl) (by kernel_rfl) (fun _ _ _ h => h) hE wn_none rfl ⟨B_g2, (own_told O_q28), (Rv.rdv_elem (fl := fl3) O_D (by decide) (fun _ => rfl) hxk).2, trivial⟩ (fun W hS => (st_move rfl)) rfl ?_
                  clear hE a; intro a hE
                  refine d_take (v := Value.pointer (some (ea A29 k))) p7_29_2 ns7_29 (by kernel_rfl) (by kernel_rfl) (fun _ _ _ h => h) hE wn_none rfl ⟨B_g2, (own_told O_q28), (Rv.rdv_elem (fl := fl3) O_D (by decide) (fun _ => rfl) hxk).2, trivial⟩ (fun W hS => (st_indexAddrS (i := k) Try.underlying35 tS3 (C_at (own_told O_q28) (show k < _ by omega)).1 rfl rfl (by omega))) rfl ?_
                  clear hE a; intro a hE
                  refine d_take (v := Value.int .i64 (rd (Ms.ks (delI l9 xs)) (k : Int))) p7_29_3 ns7_29 (by kernel_rfl) (by kernel_rfl) (fun _ _ _ h => h) hE wn_none rfl ⟨B_g2, (own_told O_q28), (Rv.rdv_elem (fl := fl3) O_D (by decide) (fun _ => rfl) hxk).2, trivial⟩ (fun W hS => (st_loadC (i := k) tA3 (hS.2.1) (by omega) rfl)) rfl ?_
                  clear hE a; intro a hE
                  refine d_take (v := Value.pointer (some ⟨g2, 0, none⟩)) p7_29_4 ns7_29 (by kernel_rfl) (by kernel_rfl) (fun _ _ _ h => h) hE wn_none rfl ⟨B_g2, (own_told O_q28), (Rv.rdv_elem (fl := fl3) O_D (by decide) (fun _ => rfl) hxk).2, trivial⟩ (fun W hS => (st_move rfl)) rfl ?_
                  clear hE a; intro a hE
                  refine d_take (v := Value.pointer (some ⟨g2, 0, none⟩)) p7_29_5 ns7_29 (by kernel_rfl) (by kernel_rfl) (fun _ _ _ h => h) hE wn_none rfl ⟨B_g2, (own_told O_q28), (Rv.rdv_elem (fl := fl3) O_D (by decide) (fun _ => rfl) hxk).2, trivial⟩ (fun W hS => (st_nil rfl)) rfl ?_
                  clear hE a; intro a hE
                  refine d_take (v := Value.pointer (some ⟨g2, 2, none⟩)) p7_29_6 ns7_29 (by kernel_rfl) (by kernel_rfl) (fun _ _ _ h => h) hE wn_none rfl ⟨B_g2, (own_told O_q28), (Rv.rdv_elem (fl := fl3) O_D (by decide) (fun _ => rfl) hxk).2, trivial⟩ (fun W hS => (st_fieldAddr Try.underlying66 rfl tS64 rfl rfl)) rfl ?_
                  clear hE a; intro a hE
                  refine d_take (v := Value.slice AD225 ((rmL L9 xs).length) cD226) p7_29_7 ns7_29 (by kernel_rfl) (by kernel_rfl) (fun _ _ _ h => h) hE wn_none rfl ⟨B_g2, (own_told O_q28), (Rv.rdv_elem (fl := fl3) O_D (by decide) (fun _ => rfl) hxk).2, trivial⟩ (fun W hS => (st_load1 tA64 rfl ((blk_cell hS.1 2).trans rfl))) rfl ?_
                  clear hE a; intro a hE
                  refine d_take (v := Value.int .i64 (k : Int)) p7_29_8 ns7_29 (by kernel_rfl) (by kernel_rfl) (fun _ _ _ h => h) hE wn_none rfl ⟨B_g2, (own_told O_q28), (Rv.rdv_elem (fl := fl3) O_D (by decide) (fun _ => rfl) hxk).2, trivial⟩ (fun W hS => (st_move rfl)) rfl ?_
                  clear hE a; intro a hE
                  refine d_take (v := Value.pointer (some (ea AD225 (k * 3)))) p7_29_9 ns7_29 (by kernel_rfl) (by kernel_rfl) (fun _ _ _ h => h) hE wn_none rfl ⟨B_g2, (own_told O_q28), (Rv.rdv_elem (fl := fl3) O_D (by decide) (fun _ => rfl) hxk).2, trivial⟩ (fun W hS => (st_indexAddrR (i := k) (s := 3) Try.underlying64 tS70 hAek rfl rfl (by omega))) rfl ?_
                  clear hE a; intro a hE
                  refine d_take (v := Value.pointer (some (ea AD225 (k * 3)))) p7_29_10 ns7_29 (by kernel_rfl) (by kernel_rfl) (fun _ _ _ h => h) hE wn_none rfl ⟨B_g2, (own_told O_q28), (Rv.rdv_elem (fl := fl3) O_D (by decide) (fun _ => rfl) hxk).2, trivial⟩ (fun W hS => (st_fieldAddrR (off := k * 3) (f0 := 0) (o' := k * 3) Try.underlying70 rfl tS3 rfl (by omega) rfl)) rfl ?_
                  clear hE a; intro a hE
                  refine d_take (v := Value.int .i64 o.1) p7_29_11 ns7_29 (by kernel_rfl) (by kernel_rfl) (fun _ _ _ h => h) hE wn_none rfl ⟨B_g2, (own_told O_q28), (Rv.rdv_elem (fl := fl3) O_D (by decide) (fun _ => rfl) hxk).2, trivial⟩ (fun W hS => (st_loadR1 (off := k * 3) (j := 0) tA3 (hS.2.2.1) rfl (by omega) rfl)) rfl ?_
                  clear hE a; intro a hE
                  refine d_take (v := Value.bool false) p7_29_12 ns7_29 (by kernel_rfl) (by kernel_rfl) (fun _ _ _ h => h) hE wn_none rfl ⟨B_g2, (own_told O_q28), (Rv.rdv_elem (fl := fl3) O_D (by decide) (fun _ => rfl) hxk).2, trivial⟩ (fun W hS => (st_neq (b := false) rfl rfl (by rw [hrd9]; simp))) rfl ?_
                  clear hE a; intro a hE
                  refine d_end (by kernel_rfl) ?_
                  refine x_norm ?_
                  refine c_cond (t := false) hE rfl ?_
                  refine wp_skip ?_
                  refine x_normB ?_
                  refine x_norm ?_
                  refine c_regL R7_28_l ?_
                  refine q0 p7_28_0 hE (st_move rfl) ?_
                  clear hE a; intro a hE
                  refine q0 p7_28_1 hE (st_add (z := (k : Int) + 1) rfl rfl (wr_i64 _ (by omega) (by omega))) ?_
                  clear hE a; intro a hE
                  refine q0 p7_28_2 hE (st_assign rfl) ?_
                  clear hE a; intro a hE
                  refine p_nil ?_
                  refine x_norm ?_
                  exact ⟨k + 1, by omega, En.sub hE ⟨rfl, rfl, rfl, rfl, rfl, rfl, rfl, rfl, rfl, rfl, rfl, rfl, rfl, rfl, rfl, rfl, rfl, rfl, trivial⟩, by omega, B_gW, B_gN, B_g2, B_g6, O_D, Nb_D_gW, Nb_D_gN, Nb_D_g2, Nb_D_g6, NN_D_q28, O_q28, Nb_q28_gW, Nb_q28_gN, Nb_q28_g2, Nb_q28_g6, Z_0_q28, NN_q28_D, K_0⟩
                ·
                  refine c_reg R7_27_l ?_
                  refine q0 p7_27_0 hE (st_move rfl) ?_
                  clear hE a; intro a hE
                  refine q0 p7_27_1 hE (st_move rfl) ?_
                  clear hE a; intro a hE
                  refine q0 p7_27_2 hE (st_len Try.underlying35 rfl) ?_
                  clear hE a; intro a hE
                  refine q0 p7_27_3 hE (st_lss (b := false) rfl rfl (decide_eq_false hK1)) ?_
                  clear hE a; intro a hE
                  refine p_nil ?_
                  refine x_norm ?_
                  refine c_cond (t := false) hE rfl ?_
                  refine wp_exit ?_
                  refine x_exit ?_
                  refine x_exit ?_
                  refine x_in ?_
                  refine x_normB ?_
                  refine x_norm ?_
                  refine c_regL R7_9_l ?_
                  refine q0 p7_9_0 hE (st_move rfl) ?_
                  clear hE a; intro a hE
                  refine q0 p7_9_1 hE (st_add (z := (i : Int) + 1) rfl rfl (wr_i64 _ (by omega) (by omega))) ?_
                  clear hE a; intro a hE
                  refine q0 p7_9_2 hE (st_assign rfl) ?_
                  clear hE a; intro a hE
                  refine p_nil ?_
                  refine x_norm ?_
                  exact ⟨i + 1, by omega, AD225, cD226, (rmL L9 xs).length, esm23, ckm23, (delI l9 xs), (rmL L9 xs), En.sub hE ⟨rfl, rfl, rfl, rfl, rfl, rfl, rfl, rfl, rfl, trivial⟩, MFm23, hrel2, hok2, rfl, hc_D, by omega, B_gW, B_gN, B_g2, O_D, Nb_D_gW, Nb_D_gN, Nb_D_g2, K_0⟩
            ·
              refine c_reg R7_17_l ?_
              refine q0 p7_17_0 hE (st_eql (b := false) rfl rfl (decide_eq_false hKB)) ?_
              clear hE a; intro a hE
              refine q0 p7_17_1 hE (st_assign rfl) ?_
              clear hE a; intro a hE
              refine p_nil ?_
              refine x_norm ?_
              refine c_cond (t := false) hE rfl ?_
              rcases Decidable.em ((xk % 18446744073709551616 % 4) = 2) with hKC | hKC
              ·
                refine c_reg R7_19_l ?_
                refine q0 p7_19_0 hE (st_eql (b := true) rfl rfl (decide_eq_true hKC)) ?_
                clear hE a; intro a hE
                refine q0 p7_19_1 hE (st_assign rfl) ?_
                clear hE a; intro a hE
                refine p_nil ?_
                refine x_norm ?_
                refine c_cond (t := true) hE rfl ?_
                refine c_reg R7_20_l ?_
                refine q0 p7_20_0 hE (st_move rfl) ?_
                clear hE a; intro a hE
                refine q0 p7_20_1 hE (st_fieldAddr Try.underlying68 rfl tS3 rfl rfl) ?_
                clear hE a; intro a hE
                refine q0 p7_20_2 hE (st_load1 tA3 rfl ((blk_cell B_g6 2).trans rfl)) ?_
                clear hE a; intro a hE
                have hnb_gW := blk_lt B_gW
                have hnb_gN := blk_lt B_gN
                have hnb_g2 := blk_lt B_g2
                have hnb_g6 := blk_lt B_g6
                have hnz_0 := K_0.kept.1
                have hno_D := fun k (h : OB A_D k) => (Rv.rdv_ob O_D h).2
                have hctQ34 := due_any gW gN ck9 es9 l9 a0 a1 xn w9 hwt htr16 hokl B_gW B_gN MF9 n_gW_gN
                obtain ⟨Q34, hQ34⟩ : ∃ Q, (dueS a0 a1 xn l9) = Q := ⟨_, rfl⟩
                rw [hQ34] at hctQ34
                refine p_cons (s_call (xs := [Operand.tmp 110, Operand.tmp 112]) (args := [Value.pointer (some ⟨gW, 0, none⟩), Value.int .i64 xn]) p7_20_3 hE wn_none rfl rfl Try.func24 cl24 (hctQ34) ?_)
                rintro e w45 ⟨A35, c36, B37, d38, es39, ck40, rfl, O_qa41, O_ql42, hNN43, MF44, hok_MF44, B_gN', hk⟩
                replace B_gW := kp_blk B_gW hk n_gW_gN
                replace B_g2 := kp_blk B_g2 hk (Ne.symm n_gN_g2)
                replace B_g6 := kp_blk B_g6 hk (Ne.symm n_gN_g6)
                replace O_D := Rv.rdv_keep O_D hk (fun k hk2 h2 => Nb_D_gN (by rw [show k = gN from h2] at hk2; exact hk2))
                replace K_0 := K_0.then_ hk (fun k h => by rw [show k = gN from h]; exact Or.inr z_0_gN)
                replace B_gN := B_gN'
                skip
                have Nb_qa41_gW : ¬ OB A35 gW := fun h => by have := (own_ob O_qa41 h).1; have := hnb_gW; omega
                have Nb_qa41_gN : ¬ OB A35 gN := fun h => by have := (own_ob O_qa41 h).1; have := hnb_gN; omega
                have Nb_qa41_g2 : ¬ OB A35 g2 := fun h => by have := (own_ob O_qa41 h).1; have := hnb_g2; omega
                have Nb_qa41_g6 : ¬ OB A35 g6 := fun h => by have := (own_ob O_qa41 h).1; have := hnb_g6; omega
                have Z_0_qa41 : ∀ k, OB A35 k → (fun _ => False) k ∨ w.heap.size ≤ k := fun k h => .inr (by have := (own_ob O_qa41 h).1; have := hnz_0; omega)
                have NN_qa41_D : ∀ k, OB A35 k → ¬ OB A_D k := fun k h h2 => by have := (own_ob O_qa41 h).1; have := hno_D k h2; omega
                have NN_D_qa41 : ∀ k, OB A_D k → ¬ OB A35 k := fun k h h2 => NN_qa41_D k h2 h
                replace O_qa41 := own_lower O_qa41 hnz_0
                have Nb_ql42_gW : ¬ OB B37 gW := fun h => by have := (own_ob O_ql42 h).1; have := hnb_gW; omega
                have Nb_ql42_gN : ¬ OB B37 gN := fun h => by have := (own_ob O_ql42 h).1; have := hnb_gN; omega
                have Nb_ql42_g2 : ¬ OB B37 g2 := fun h => by have := (own_ob O_ql42 h).1; have := hnb_g2; omega
                have Nb_ql42_g6 : ¬ OB B37 g6 := fun h => by have := (own_ob O_ql42 h).1; have := hnb_g6; omega
                have Z_0_ql42 : ∀ k, OB B37 k → (fun _ => False) k ∨ w.heap.size ≤ k := fun k h => .inr (by have := (own_ob O_ql42 h).1; have := hnz_0; omega)
                have NN_ql42_D : ∀ k, OB B37 k → ¬ OB A_D k := fun k h h2 => by have := (own_ob O_ql42 h).1; have := hno_D k h2; omega
                have NN_D_ql42 : ∀ k, OB A_D k → ¬ OB B37 k := fun k h h2 => NN_ql42_D k h2 h
                have NN_ql42_qa41 : ∀ k, OB B37 k → ¬ OB A35 k := fun k h h2 => hNN43 k h2 h
                have NN_qa41_ql42 : ∀ k, OB A35 k → ¬ OB B37 k := fun k h h2 => NN_ql42_qa41 k h2 h
                replace O_ql42 := own_lower O_ql42 hnz_0
                refine ⟨_, rfl, ?_⟩
                clear hE a; intro a hE
                refine q0 p7_20_4 hE (st_move rfl) ?_
                clear hE a; intro a hE
                refine q0 p7_20_5 hE (st_extract rfl rfl) ?_
                clear hE a; intro a hE
                refine q0 p7_20_6 hE (st_extract rfl rfl) ?_
                clear hE a; intro a hE
                refine q0 p7_20_7 hE (st_assign rfl) ?_
                clear hE a; intro a hE
                refine q0 p7_20_8 hE (st_assign rfl) ?_
                clear hE a; intro a hE
                refine p_nil ?_
                refine x_norm ?_
                refine c_reg R7_21_l ?_
                refine q0 p7_21_0 hE (st_move rfl) ?_
                clear hE a; intro a hE
                refine q0 p7_21_1 hE (st_fieldAddr Try.underlying68 rfl tS3 rfl rfl) ?_
                clear hE a; intro a hE
                refine q0 p7_21_2 hE (st_load1 tA3 rfl ((blk_cell B_g6 2).trans rfl)) ?_
                clear hE a; intro a hE
                have hnb_gW := blk_lt B_gW
                have hnb_gN := blk_lt B_gN
                have hnb_g2 := blk_lt B_g2
                have hnb_g6 := blk_lt B_g6
                have hnz_0 := K_0.kept.1
                have hno_D := fun k (h : OB A_D k) => (Rv.rdv_ob O_D h).2
                have hno_qa41 := fun k (h : OB A35 k) => (own_ob O_qa41 h).2
                have hno_ql42 := fun k (h : OB B37 k) => (own_ob O_ql42 h).2
                have hct := rdue_any g2 A_D c_D L9 a0 a1 xn hwt htr16 (hrel.ok hokl) (by omega) w45 B_g2 O_D hc_D (by omega) Nb_D_g2
                obtain ⟨RQ46, hRQ46⟩ : ∃ Q, (dueR a0 a1 xn L9) = Q := ⟨_, rfl⟩
                rw [hRQ46] at hct
                refine p_cons (s_call (xs := [Operand.tmp 117, Operand.tmp 119]) (args := [Value.pointer (some ⟨g2, 0, none⟩), Value.int .i64 xn]) p7_21_3 hE wn_none rfl rfl Try.func30 cl30 (hct) ?_)
                rintro e w55 ⟨B47, cb48, Bb49, cbb50, AD51, cD52, rfl, O_ra53, O_rl54, hNNr, B_g2', O_D2, hc_D2, hg9, hk⟩
                replace B_gW := kp_blk B_gW hk n_gW_g2
                replace B_gN := kp_blk B_gN hk n_gN_g2
                replace B_g6 := kp_blk B_g6 hk (Ne.symm n_g2_g6)
                replace O_D := Rv.rdv_keep O_D hk (fun k hk2 h2 => Nb_D_g2 (by rw [show k = g2 from h2] at hk2; exact hk2))
                replace O_qa41 := own_keep O_qa41 hk (fun k hk2 h2 => Nb_qa41_g2 (by rw [show k = g2 from h2] at hk2; exact hk2))
                replace O_ql42 := own_keep O_ql42 hk (fun k hk2 h2 => Nb_ql42_g2 (by rw [show k = g2 from h2] at hk2; exact hk2))
                replace K_0 := K_0.then_ hk (fun k h => by rw [show k = g2 from h]; exact Or.inr z_0_g2)
                replace B_g2 := B_g2'
                have Nb_ra53_gW : ¬ OB B47 gW := fun h => by have := (own_ob O_ra53 h).1; have := hnb_gW; omega
                have Nb_ra53_gN : ¬ OB B47 gN := fun h => by have := (own_ob O_ra53 h).1; have := hnb_gN; omega
                have Nb_ra53_g2 : ¬ OB B47 g2 := fun h => by have := (own_ob O_ra53 h).1; have := hnb_g2; omega
                have Nb_ra53_g6 : ¬ OB B47 g6 := fun h => by have := (own_ob O_ra53 h).1; have := hnb_g6; omega
                have Z_0_ra53 : ∀ k, OB B47 k → (fun _ => False) k ∨ w.heap.size ≤ k := fun k h => .inr (by have := (own_ob O_ra53 h).1; have := hnz_0; omega)
                have NN_ra53_qa41 : ∀ k, OB B47 k → ¬ OB A35 k := fun k h h2 => by have := (own_ob O_ra53 h).1; have := hno_qa41 k h2; omega
                have NN_qa41_ra53 : ∀ k, OB A35 k → ¬ OB B47 k := fun k h h2 => NN_ra53_qa41 k h2 h
                have NN_ra53_ql42 : ∀ k, OB B47 k → ¬ OB B37 k := fun k h h2 => by have := (own_ob O_ra53 h).1; have := hno_ql42 k h2; omega
                have NN_ql42_ra53 : ∀ k, OB B37 k → ¬ OB B47 k := fun k h h2 => NN_ra53_ql42 k h2 h
                replace O_ra53 := own_lower O_ra53 hnz_0
                have Nb_rl54_gW : ¬ OB Bb49 gW := fun h => by have := (own_ob O_rl54 h).1; have := hnb_gW; omega
                have Nb_rl54_gN : ¬ OB Bb49 gN := fun h => by have := (own_ob O_rl54 h).1; have := hnb_gN; omega
                have Nb_rl54_g2 : ¬ OB Bb49 g2 := fun h => by have := (own_ob O_rl54 h).1; have := hnb_g2; omega
                have Nb_rl54_g6 : ¬ OB Bb49 g6 := fun h => by have := (own_ob O_rl54 h).1; have := hnb_g6; omega
                have Z_0_rl54 : ∀ k, OB Bb49 k → (fun _ => False) k ∨ w.heap.size ≤ k := fun k h => .inr (by have := (own_ob O_rl54 h).1; have := hnz_0; omega)
                have NN_rl54_qa41 : ∀ k, OB Bb49 k → ¬ OB A35 k := fun k h h2 => by have := (own_ob O_rl54 h).1; have := hno_qa41 k h2; omega
                have NN_qa41_rl54 : ∀ k, OB A35 k → ¬ OB Bb49 k := fun k h h2 => NN_rl54_qa41 k h2 h
                have NN_rl54_ql42 : ∀ k, OB Bb49 k → ¬ OB B37 k := fun k h h2 => by have := (own_ob O_rl54 h).1; have := hno_ql42 k h2; omega
                have NN_ql42_rl54 : ∀ k, OB B37 k → ¬ OB Bb49 k := fun k h h2 => NN_rl54_ql42 k h2 h
                have NN_rl54_ra53 : ∀ k, OB Bb49 k → ¬ OB B47 k := fun k h h2 => hNNr k h2 h
                have NN_ra53_rl54 : ∀ k, OB B47 k → ¬ OB Bb49 k := fun k h h2 => NN_rl54_ra53 k h2 h
                replace O_rl54 := own_lower O_rl54 hnz_0
                have Nb_D2_gW : ¬ OB AD51 gW := fun h => (hg9 _ h).elim Nb_D_gW (fun h2 => by have := hnb_gW; omega)
                have Nb_D2_gN : ¬ OB AD51 gN := fun h => (hg9 _ h).elim Nb_D_gN (fun h2 => by have := hnb_gN; omega)
                have Nb_D2_g2 : ¬ OB AD51 g2 := fun h => (hg9 _ h).elim Nb_D_g2 (fun h2 => by have := hnb_g2; omega)
                have Nb_D2_g6 : ¬ OB AD51 g6 := fun h => (hg9 _ h).elim Nb_D_g6 (fun h2 => by have := hnb_g6; omega)
                have O_D := O_D2
                have hc_D := hc_D2
                have Nb_D_gW := Nb_D2_gW
                have Nb_D_gN := Nb_D2_gN
                have Nb_D_g2 := Nb_D2_g2
                have Nb_D_g6 := Nb_D2_g6
                have hdu := hrel.due a0 a1 xn
                have hdl := due_len2 a0 a1 xn l9
                rw [hQ34] at hdl
                rw [hQ34, hRQ46] at hdu
                refine ⟨_, rfl, ?_⟩
                clear hE a; intro a hE
                refine q0 p7_21_4 hE (st_move rfl) ?_
                clear hE a; intro a hE
                refine q0 p7_21_5 hE (st_extract rfl rfl) ?_
                clear hE a; intro a hE
                refine q0 p7_21_6 hE (st_extract rfl rfl) ?_
                clear hE a; intro a hE
                refine q0 p7_21_7 hE (st_assign rfl) ?_
                clear hE a; intro a hE
                refine q0 p7_21_8 hE (st_assign rfl) ?_
                clear hE a; intro a hE
                refine p_nil ?_
                refine x_norm ?_
                refine c_regL R7_22_l ?_
                refine q0 p7_22_0 hE (st_move rfl) ?_
                clear hE a; intro a hE
                refine q0 p7_22_1 hE (st_move rfl) ?_
                clear hE a; intro a hE
                have hct : Calls Try.prog 15 #[Value.slice A35 Q34.again.length c36, Value.slice B47 RQ46.again.length cb48] w55 fun e w' => e = .returned (.bool true) ∧ Kp w55 w' (fun _ => False) := by
                  rw [← hdu.1]
                  exact same_i A35 B47 c36 cb48 Q34.again w55 (by have := hdl.1; omega) (own_told O_qa41) (by have h := (own_told O_ra53); rw [← hdu.1] at h; exact h)
                refine p_cons (s_call (xs := [Operand.tmp 123, Operand.tmp 124]) (args := [Value.slice A35 Q34.again.length c36, Value.slice B47 RQ46.again.length cb48]) p7_22_2 hE wn_none rfl rfl Try.func15 cl15 (hct) ?_)
                rintro e w56 ⟨rfl, hk⟩
                replace B_gW := kp_blk B_gW hk (fun h => h)
                replace B_gN := kp_blk B_gN hk (fun h => h)
                replace B_g2 := kp_blk B_g2 hk (fun h => h)
                replace B_g6 := kp_blk B_g6 hk (fun h => h)
                replace O_qa41 := own_keep O_qa41 hk (fun _ _ h => h)
                replace O_ql42 := own_keep O_ql42 hk (fun _ _ h => h)
                replace O_ra53 := own_keep O_ra53 hk (fun _ _ h => h)
                replace O_rl54 := own_keep O_rl54 hk (fun _ _ h => h)
                replace O_D := Rv.rdv_keep O_D hk (fun _ _ h => h)
                replace K_0 := K_0.then_ hk (fun _ h => h.elim)
                refine ⟨_, rfl, ?_⟩
                clear hE a; intro a hE
                refine q0 p7_22_3 hE (st_move rfl) ?_
                clear hE a; intro a hE
                refine p_cons (s_still p7_22_4 hE (wn_some g7_22_3 rfl rfl) rfl (st_move rfl) ?_)
                clear hE a; intro a hE
                refine p_cons (s_still p7_22_5 hE (wn_some g7_22_3 rfl rfl) rfl (st_move rfl) ?_)
                clear hE a; intro a hE
                have hct : Calls Try.prog 15 #[Value.slice B37 Q34.lost.length d38, Value.slice Bb49 RQ46.lost.length cbb50] w56 fun e w' => e = .returned (.bool true) ∧ Kp w56 w' (fun _ => False) := by
                  rw [← hdu.2.1]
                  exact same_i B37 Bb49 d38 cbb50 Q34.lost w56 (by have := hdl.2; omega) (own_told O_ql42) (by have h := (own_told O_rl54); rw [← hdu.2.1] at h; exact h)
                refine p_cons (s_call (xs := [Operand.tmp 127, Operand.tmp 128]) (args := [Value.slice B37 Q34.lost.length d38, Value.slice Bb49 RQ46.lost.length cbb50]) p7_22_6 hE (wn_some g7_22_3 rfl rfl) rfl rfl Try.func15 cl15 (hct) ?_)
                rintro e w57 ⟨rfl, hk⟩
                replace B_gW := kp_blk B_gW hk (fun h => h)
                replace B_gN := kp_blk B_gN hk (fun h => h)
                replace B_g2 := kp_blk B_g2 hk (fun h => h)
                replace B_g6 := kp_blk B_g6 hk (fun h => h)
                replace O_qa41 := own_keep O_qa41 hk (fun _ _ h => h)
                replace O_ql42 := own_keep O_ql42 hk (fun _ _ h => h)
                replace O_ra53 := own_keep O_ra53 hk (fun _ _ h => h)
                replace O_rl54 := own_keep O_rl54 hk (fun _ _ h => h)
                replace O_D := Rv.rdv_keep O_D hk (fun _ _ h => h)
                replace K_0 := K_0.then_ hk (fun _ h => h.elim)
                refine ⟨_, rfl, ?_⟩
                clear hE a; intro a hE
                refine q0 p7_22_7 hE (st_pick rfl rfl) ?_
                clear hE a; intro a hE
                refine q0 p7_22_8 hE (st_assign rfl) ?_
                clear hE a; intro a hE
                refine p_nil ?_
                refine x_normB ?_
                refine x_norm ?_
                refine c_reg R7_23_l ?_
                have hrel2 : Rel Q34.l RQ46.l := hdu.2.2
                have hok2 : Ok Q34.l := hok_MF44
                have hlen9 : Q34.l.length = RQ46.l.length := hrel2.len
                have hle2 := ok_len hrel2.keysl hok2
                refine q0 p7_23_0 hE (st_move rfl) ?_
                clear hE a; intro a hE
                have hnb_gW := blk_lt B_gW
                have hnb_gN := blk_lt B_gN
                have hnb_g2 := blk_lt B_g2
                have hnb_g6 := blk_lt B_g6
                have hnz_0 := K_0.kept.1
                have hno_D := fun k (h : OB AD51 k) => (Rv.rdv_ob O_D h).2
                refine p_cons (s_call (xs := [Operand.tmp 131]) (args := [Value.pointer (some ⟨gW, 0, none⟩)]) p7_23_1 hE wn_none rfl rfl Try.func26 cl26 (open_any gW gN ck40 es39 Q34.l a0 a1 _ (by omega) B_gW B_gN MF44 n_gW_gN) ?_)
                rintro e w61 ⟨A59, c60, rfl, O_q58, hk⟩
                replace B_gW := kp_blk B_gW hk (fun h => h)
                replace B_gN := kp_blk B_gN hk (fun h => h)
                replace B_g2 := kp_blk B_g2 hk (fun h => h)
                replace B_g6 := kp_blk B_g6 hk (fun h => h)
                replace O_D := Rv.rdv_keep O_D hk (fun _ _ h => h)
                replace K_0 := K_0.then_ hk (fun _ h => h.elim)
                have Nb_q58_gW : ¬ OB A59 gW := fun h => by have := (own_ob O_q58 h).1; have := hnb_gW; omega
                have Nb_q58_gN : ¬ OB A59 gN := fun h => by have := (own_ob O_q58 h).1; have := hnb_gN; omega
                have Nb_q58_g2 : ¬ OB A59 g2 := fun h => by have := (own_ob O_q58 h).1; have := hnb_g2; omega
                have Nb_q58_g6 : ¬ OB A59 g6 := fun h => by have := (own_ob O_q58 h).1; have := hnb_g6; omega
                have Z_0_q58 : ∀ k, OB A59 k → (fun _ => False) k ∨ w.heap.size ≤ k := fun k h => .inr (by have := (own_ob O_q58 h).1; have := hnz_0; omega)
                have NN_q58_D : ∀ k, OB A59 k → ¬ OB AD51 k := fun k h h2 => by have := (own_ob O_q58 h).1; have := hno_D k h2; omega
                have NN_D_q58 : ∀ k, OB AD51 k → ¬ OB A59 k := fun k h h2 => NN_q58_D k h2 h
                replace O_q58 := own_lower O_q58 hnz_0
                refine ⟨_, rfl, ?_⟩
                clear hE a; intro a hE
                refine q0 p7_23_2 hE (st_assign rfl) ?_
                clear hE a; intro a hE
                refine p_nil ?_
                refine x_norm ?_
                refine wp_seq ?_
                refine c_reg R7_24_l ?_
                refine q0 p7_24_0 hE (st_move rfl) ?_
                clear hE a; intro a hE
                refine q0 p7_24_1 hE (st_not rfl rfl) ?_
                clear hE a; intro a hE
                refine q0 p7_24_2 hE (st_move rfl) ?_
                clear hE a; intro a hE
                refine p_cons (s_still p7_24_3 hE (wn_some g7_24_2 rfl rfl) rfl (st_move rfl) ?_)
                clear hE a; intro a hE
                refine p_cons (s_still p7_24_4 hE (wn_some g7_24_2 rfl rfl) rfl (st_len Try.underlying35 rfl) ?_)
                clear hE a; intro a hE
                refine p_cons (s_still p7_24_5 hE (wn_some g7_24_2 rfl rfl) rfl (st_move rfl) ?_)
                clear hE a; intro a hE
                refine p_cons (s_still p7_24_6 hE (wn_some g7_24_2 rfl rfl) rfl (st_nil rfl) ?_)
                clear hE a; intro a hE
                refine p_cons (s_still p7_24_7 hE (wn_some g7_24_2 rfl rfl) rfl (st_fieldAddr Try.underlying66 rfl tS64 rfl rfl) ?_)
                clear hE a; intro a hE
                refine p_cons (s_still p7_24_8 hE (wn_some g7_24_2 rfl rfl) rfl (st_load1 tA64 rfl ((blk_cell B_g2 2).trans rfl)) ?_)
                clear hE a; intro a hE
                refine p_cons (s_still p7_24_9 hE (wn_some g7_24_2 rfl rfl) rfl (st_len Try.underlying64 rfl) ?_)
                clear hE a; intro a hE
                refine p_cons (s_still p7_24_10 hE (wn_some g7_24_2 rfl rfl) rfl (st_neq (b := false) rfl rfl (by rw [hlen9]; simp)) ?_)
                clear hE a; intro a hE
                refine q0 p7_24_11 hE (st_pick rfl rfl) ?_
                clear hE a; intro a hE
                refine p_nil ?_
                refine x_norm ?_
                refine c_cond (t := false) hE rfl ?_
                refine wp_skip ?_
                refine x_norm ?_
                refine c_reg R7_26_l ?_
                refine q0 p7_26_0 hE (st_assign rfl) ?_
                clear hE a; intro a hE
                refine p_nil ?_
                refine x_norm ?_
                refine wp_block ?_
                refine c_loop (α := Nat) (fun k a W => En 165 a [(0, Value.int .i64 a0), (1, Value.int .i64 a1), (2, Value.slice a2 z2.length cap2), (7, Value.pointer (some ⟨gW, 0, none⟩)), (8, Value.int .i64 0), (38, Value.bool false), (53, Value.bool false), (9, Value.pointer (some ⟨g2, 0, none⟩)), (10, Value.int .i64 (i : Int)), (65, Value.bool true), (11, Value.pointer (some ⟨g6, 0, none⟩)), (12, Value.bool true), (75, Value.int .u64 (xk % 18446744073709551616 % 4)), (81, Value.bool false), (96, Value.bool false), (107, Value.bool true), (13, Value.slice A35 Q34.again.length c36), (14, Value.slice B37 Q34.lost.length d38), (15, Value.slice B47 RQ46.again.length cb48), (16, Value.slice Bb49 RQ46.lost.length cbb50), (17, Value.slice A59 Q34.l.length c60), (144, Value.bool false), (18, Value.int .i64 (k : Int))] ∧ k ≤ Q34.l.length ∧ W.heap[gW]? = some (.cells #[Value.int .i64 a0, Value.int .i64 a1, Value.map (some gN)] 82 (0, 0)) ∧ W.heap[gN]? = some (.map es39 ck40) ∧ W.heap[g2]? = some (.cells #[Value.int .i64 a0, Value.int .i64 a1, Value.slice AD51 RQ46.l.length cD52] 66 (0, 0)) ∧ W.heap[g6]? = some (.cells #[Value.int .i64 xk, Value.int .i64 xs, Value.int .i64 xn] 68 (0, 0)) ∧ Rv.RdV W AD51 RQ46.l.length 3 (flO RQ46.l) ∧ ¬ OB AD51 gW ∧ ¬ OB AD51 gN ∧ ¬ OB AD51 g2 ∧ ¬ OB AD51 g6 ∧ (∀ k, OB AD51 k → ¬ OB A59 k) ∧ W.ownsRow w.heap.size 3 1 (.slice A59 Q34.l.length c60) Q34.l.length (encs (Value.int .i64) (Ms.ks Q34.l)) ∧ ¬ OB A59 gW ∧ ¬ OB A59 gN ∧ ¬ OB A59 g2 ∧ ¬ OB A59 g6 ∧ (∀ k, OB A59 k → (fun _ => False) k ∨ w.heap.size ≤ k) ∧ (∀ k, OB A59 k → ¬ OB AD51 k) ∧ Kp w W (fun _ => False)) (fun k => Q34.l.length - k) (0) ?_ ?_
                ·
                  exact ⟨En.sub hE ⟨rfl, rfl, rfl, rfl, rfl, rfl, rfl, rfl, rfl, rfl, rfl, rfl, rfl, rfl, rfl, rfl, rfl, rfl, rfl, rfl, rfl, rfl, rfl, trivial⟩, Nat.zero_le _, B_gW, B_gN, B_g2, B_g6, O_D, Nb_D_gW, Nb_D_gN, Nb_D_g2, Nb_D_g6, NN_D_q58, O_q58, Nb_q58_gW, Nb_q58_gN, Nb_q58_g2, Nb_q58_g6, Z_0_q58, NN_q58_D, K_0⟩
                ·
                  clear hE a
                  rintro k a w62 ⟨hE, hk9, B_gW, B_gN, B_g2, B_g6, O_D, Nb_D_gW, Nb_D_gN, Nb_D_g2, Nb_D_g6, NN_D_q58, O_q58, Nb_q58_gW, Nb_q58_gN, Nb_q58_g2, Nb_q58_g6, Z_0_q58, NN_q58_D, K_0⟩
                  refine wp_seq ?_
                  rcases Decidable.em ((k : Int) < (Q34.l.length : Int)) with hK1 | hK1
                  ·
                    refine c_reg R7_27_l ?_
                    refine q0 p7_27_0 hE (st_move rfl) ?_
                    clear hE a; intro a hE
                    refine q0 p7_27_1 hE (st_move rfl) ?_
                    clear hE a; intro a hE
                    refine q0 p7_27_2 hE (st_len Try.underlying35 rfl) ?_
                    clear hE a; intro a hE
                    refine q0 p7_27_3 hE (st_lss (b := true) rfl rfl (decide_eq_true hK1)) ?_
                    clear hE a; intro a hE
                    refine p_nil ?_
                    refine x_norm ?_
                    refine c_cond (t := true) hE rfl ?_
                    refine wp_skip ?_
                    refine x_norm ?_
                    refine wp_seq ?_
                    refine wp_block ?_
                    obtain ⟨o, hxk⟩ : ∃ o, RQ46.l[k]? = some o := ⟨_, List.getElem?_eq_getElem (by omega)⟩
                    have hAek := (Rv.rdv_elem (fl := fl3) O_D (by decide) (fun _ => rfl) hxk).1
                    have hrd9 : rd (Ms.ks Q34.l) (k : Int) = o.1 := by unfold rd; rw [hrel2.ks, Int.toNat_natCast, List.getD_eq_getElem?_getD, List.getElem?_map, hxk]; rfl
                    refine c_drawS (S := fun W => W.heap[g2]? = some (.cells #[Value.int .i64 a0, Value.int .i64 a1, Value.slice AD51 RQ46.l.length cD52] 66 (0, 0)) ∧ Kd.C (Kd.int .i64) W A59 Q34.l.length (Ms.ks Q34.l) ∧ (∀ j u, ([Value.int .i64 o.1, Value.int .i64 o.2.1, Value.int .i64 o.2.2])[j]? = some u → W.cell? (ea AD51 (k * 3 + j)) = some u) ∧ True) rfl rfl (listed := #[false, false, false, false, false, false, false, false, false, false, false, false, false]) rfl ?_
                    intro w63 hh hk
                    replace B_gW := kp_blk B_gW hk (fun h => h)
                    replace B_gN := kp_blk B_gN hk (fun h => h)
                    replace B_g2 := kp_blk B_g2 hk (fun h => h)
                    replace B_g6 := kp_blk B_g6 hk (fun h => h)
                    replace O_D := Rv.rdv_keep O_D hk (fun _ _ h => h)
                    replace O_q58 := own_keep O_q58 hk (fun _ _ h => h)
                    replace K_0 := K_0.then_ hk (fun _ h => h.elim)
                    clear hh hk
                    refine d_take (v := Value.slice A59 Q34.l.length c60) p7_29_0 ns7_29 (by kernel_rfl) (by kernel_rfl) (fun _ _ _ h => h) hE wn_none rfl ⟨B_g2, (own_told O_q58), (Rv.rdv_elem (fl := fl3) O_D (by decide) (fun _ => rfl) hxk).2, trivial⟩ (fun W hS => (st_move rfl)) rfl ?_
                    clear hE a; intro a hE
                    refine d_take (v := Value.int .i64 (k : Int)) p7_29_1 ns7_29 (by kernel_rfl) (by kernel_rfl) (fun _ _ _ h => h) hE wn_none rfl ⟨B_g2, (own_told O_q58), (Rv.rdv_elem (fl := fl3) O_D (by decide) (fun _ => rfl) hxk).2, trivial⟩ (fun W hS => (st_move rfl)) rfl ?_
                    clear hE a; intro a hE
                    refine d_take (v := Value.pointer (some (ea A59 k))) p7_29_2 ns7_29 (by kernel_rfl) (by kernel_rfl) (fun _ _ _ h => h) hE wn_none rfl ⟨B_g2, (own_told O_q58), (Rv.rdv_elem (fl := fl3) O_D (by decide) (fun _ => rfl) hxk).2, trivial⟩ (fun W hS => (st_indexAddrS (i := k) Try.underlying35 tS3 (C_at (own_told O_q58) (show k < _ by omega)).1 rfl rfl (by omega))) rfl ?_
                    clear hE a; intro a hE
                    refine d_take (v := Value.int .i64 (rd (Ms.ks Q34.l) (k : Int))) p7_29_3 ns7_29 (by kernel_rfl) (by kernel_rfl) (fun _ _ _ h => h) hE wn_none rfl ⟨B_g2, (own_told O_q58), (Rv.rdv_elem (fl := fl3) O_D (by decide) (fun _ => rfl) hxk).2, trivial⟩ (fun W hS => (st_loadC (i := k) tA3 (hS.2.1) (by omega) rfl)) rfl ?_
                    clear hE a; intro a hE
                    refine d_take (v := Value.pointer (some ⟨g2, 0, none⟩)) p7_29_4 ns7_29 (by kernel_rfl) (by kernel_rfl) (fun _ _ _ h => h) hE wn_none rfl ⟨B_g2, (own_told O_q58), (Rv.rdv_elem (fl := fl3) O_D (by decide) (fun _ => rfl) hxk).2, trivial⟩ (fun W hS => (st_move rfl)) rfl ?_
                    clear hE a; intro a hE
                    refine d_take (v := Value.pointer (some ⟨g2, 0, none⟩)) p7_29_5 ns7_29 (by kernel_rfl) (by kernel_rfl) (fun _ _ _ h => h) hE wn_none rfl ⟨B_g2, (own_told O_q58), (Rv.rdv_elem (fl := fl3) O_D (by decide) (fun _ => rfl) hxk).2, trivial⟩ (fun W hS => (st_nil rfl)) rfl ?_
                    clear hE a; intro a hE
                    refine d_take (v := Value.pointer (some ⟨g2, 2, none⟩)) p7_29_6 ns7_29 (by kernel_rfl) (by kernel_rfl) (fun _ _ _ h => h) hE wn_none rfl ⟨B_g2, (own_told O_q58), (Rv.rdv_elem (fl := fl3) O_D (by decide) (fun _ => rfl) hxk).2, trivial⟩ (fun W hS => (st_fieldAddr Try.underlying66 rfl tS64 rfl rfl)) rfl ?_
                    clear hE a; intro a hE
                    refine d_take (v := Value.slice AD51 RQ46.l.length cD52) p7_29_7 ns7_29 (by kernel_rfl) (by kernel_rfl) (fun _ _ _ h => h) hE wn_none rfl ⟨B_g2, (own_told O_q58), (Rv.rdv_elem (fl := fl3) O_D (by decide) (fun _ => rfl) hxk).2, trivial⟩ (fun W hS => (st_load1 tA64 rfl ((blk_cell hS.1 2).trans rfl))) rfl ?_
                    clear hE a; intro a hE
                    refine d_take (v := Value.int .i64 (k : Int)) p7_29_8 ns7_29 (by kernel_rfl) (by kernel_rfl) (fun _ _ _ h => h) hE wn_none rfl ⟨B_g2, (own_told O_q58), (Rv.rdv_elem (fl := fl3) O_D (by decide) (fun _ => rfl) hxk).2, trivial⟩ (fun W hS => (st_move rfl)) rfl ?_
                    clear hE a; intro a hE
                    refine d_take (v := Value.pointer (some (ea AD51 (k * 3)))) p7_29_9 ns7_29 (by kernel_rfl) (by kernel_rfl) (fun _ _ _ h => h) hE wn_none rfl ⟨B_g2, (own_told O_q58), (Rv.rdv_elem (fl := fl3) O_D (by decide) (fun _ => rfl) hxk).2, trivial⟩ (fun W hS => (st_indexAddrR (i := k) (s := 3) Try.underlying64 tS70 hAek rfl rfl (by omega))) rfl ?_
                    clear hE a; intro a hE
                    refine d_take (v := Value.pointer (some (ea AD51 (k * 3)))) p7_29_10 ns7_29 (by kernel_rfl) (by kernel_rfl) (fun _ _ _ h => h) hE wn_none rfl ⟨B_g2, (own_told O_q58), (Rv.rdv_elem (fl := fl3) O_D (by decide) (fun _ => rfl) hxk).2, trivial⟩ (fun W hS => (st_fieldAddrR (off := k * 3) (f0 := 0) (o' := k * 3) Try.underlying70 rfl tS3 rfl (by omega) rfl)) rfl ?_
                    clear hE a; intro a hE
                    refine d_take (v := Value.int .i64 o.1) p7_29_11 ns7_29 (by kernel_rfl) (by kernel_rfl) (fun _ _ _ h => h) hE wn_none rfl ⟨B_g2, (own_told O_q58), (Rv.rdv_elem (fl := fl3) O_D (by decide) (fun _ => rfl) hxk).2, trivial⟩ (fun W hS => (st_loadR1 (off := k * 3) (j := 0) tA3 (hS.2.2.1) rfl (by omega) rfl)) rfl ?_
                    clear hE a; intro a hE
                    refine d_take (v := Value.bool false) p7_29_12 ns7_29 (by kernel_rfl) (by kernel_rfl) (fun _ _ _ h => h) hE wn_none rfl ⟨B_g2, (own_told O_q58), (Rv.rdv_elem (fl := fl3) O_D (by decide) (fun _ => rfl) hxk).2, trivial⟩ (fun W hS => (st_neq (b := false) rfl rfl (by rw [hrd9]; simp))) rfl ?_
                    clear hE a; intro a hE
                    refine d_end (by kernel_rfl) ?_
                    refine x_norm ?_
                    refine c_cond (t := false) hE rfl ?_
                    refine wp_skip ?_
                    refine x_normB ?_
                    refine x_norm ?_
                    refine c_regL R7_28_l ?_
                    refine q0 p7_28_0 hE (st_move rfl) ?_
                    clear hE a; intro a hE
                    refine q0 p7_28_1 hE (st_add (z := (k : Int) + 1) rfl rfl (wr_i64 _ (by omega) (by omega))) ?_
                    clear hE a; intro a hE
                    refine q0 p7_28_2 hE (st_assign rfl) ?_
                    clear hE a; intro a hE
                    refine p_nil ?_
                    refine x_norm ?_
                    exact ⟨k + 1, by omega, En.sub hE ⟨rfl, rfl, rfl, rfl, rfl, rfl, rfl, rfl, rfl, rfl, rfl, rfl, rfl, rfl, rfl, rfl, rfl, rfl, rfl, rfl, rfl, rfl, rfl, trivial⟩, by omega, B_gW, B_gN, B_g2, B_g6, O_D, Nb_D_gW, Nb_D_gN, Nb_D_g2, Nb_D_g6, NN_D_q58, O_q58, Nb_q58_gW, Nb_q58_gN, Nb_q58_g2, Nb_q58_g6, Z_0_q58, NN_q58_D, K_0⟩
                  ·
                    refine c_reg R7_27_l ?_
                    refine q0 p7_27_0 hE (st_move rfl) ?_
                    clear hE a; intro a hE
                    refine q0 p7_27_1 hE (st_move rfl) ?_
                    clear hE a; intro a hE
                    refine q0 p7_27_2 hE (st_len Try.underlying35 rfl) ?_
                    clear hE a; intro a hE
                    refine q0 p7_27_3 hE (st_lss (b := false) rfl rfl (decide_eq_false hK1)) ?_
                    clear hE a; intro a hE
                    refine p_nil ?_
                    refine x_norm ?_
                    refine c_cond (t := false) hE rfl ?_
                    refine wp_exit ?_
                    refine x_exit ?_
                    refine x_exit ?_
                    refine x_in ?_
                    refine x_normB ?_
                    refine x_norm ?_
                    refine c_regL R7_9_l ?_
                    refine q0 p7_9_0 hE (st_move rfl) ?_
                    clear hE a; intro a hE
                    refine q0 p7_9_1 hE (st_add (z := (i : Int) + 1) rfl rfl (wr_i64 _ (by omega) (by omega))) ?_
                    clear hE a; intro a hE
                    refine q0 p7_9_2 hE (st_assign rfl) ?_
                    clear hE a; intro a hE
                    refine p_nil ?_
                    refine x_norm ?_
                    exact ⟨i + 1, by omega, AD51, cD52, RQ46.l.length, es39, ck40, Q34.l, RQ46.l, En.sub hE ⟨rfl, rfl, rfl, rfl, rfl, rfl, rfl, rfl, rfl, trivial⟩, MF44, hrel2, hok2, rfl, hc_D, by omega, B_gW, B_gN, B_g2, O_D, Nb_D_gW, Nb_D_gN, Nb_D_g2, K_0⟩
              ·
                refine c_reg R7_19_l ?_
                refine q0 p7_19_0 hE (st_eql (b := false) rfl rfl (decide_eq_false hKC)) ?_
                clear hE a; intro a hE
                refine q0 p7_19_1 hE (st_assign rfl) ?_
                clear hE a; intro a hE
                refine p_nil ?_
                refine x_norm ?_
                refine c_cond (t := false) hE rfl ?_
                refine c_reg R7_13_l ?_
                refine q0 p7_13_0 hE (st_move rfl) ?_
                clear hE a; intro a hE
                refine p_cons (s_call (xs := [Operand.tmp 76]) (args := [Value.pointer (some ⟨gW, 0, none⟩)]) p7_13_1 hE wn_none rfl rfl Try.func31 cl31 (clear_any gW gN ck9 es9 l9 a0 a1 _ B_gW B_gN MF9 n_gW_gN) ?_)
                rintro e w65 ⟨esm64, ckm64, rfl, MFm64, B_gN', hk⟩
                replace B_gW := kp_blk B_gW hk n_gW_gN
                replace B_g2 := kp_blk B_g2 hk (Ne.symm n_gN_g2)
                replace B_g6 := kp_blk B_g6 hk (Ne.symm n_gN_g6)
                replace O_D := Rv.rdv_keep O_D hk (fun k hk2 h2 => Nb_D_gN (by rw [show k = gN from h2] at hk2; exact hk2))
                replace K_0 := K_0.then_ hk (fun k h => by rw [show k = gN from h]; exact Or.inr z_0_gN)
                replace B_gN := B_gN'
                refine ⟨_, rfl, ?_⟩
                clear hE a; intro a hE
                refine p_nil ?_
                refine x_norm ?_
                refine c_regL R7_14_l ?_
                refine q0 p7_14_0 hE (st_move rfl) ?_
                clear hE a; intro a hE
                refine q0 p7_14_1 hE (st_nil rfl) ?_
                clear hE a; intro a hE
                refine q0 p7_14_2 hE (st_fieldAddr Try.underlying66 rfl tS64 rfl rfl) ?_
                clear hE a; intro a hE
                refine p_cons (s_store (off := 2) (k := 1) (cs' := #[Value.int .i64 a0, Value.int .i64 a1, Value.slice none 0 0]) p7_14_3 hE wn_none tS64 rfl rfl rfl rfl B_g2 (Nat.le_of_ble_eq_true rfl) rfl ?_)
                intro w66 B_g2' hk
                replace B_gW := kp_blk B_gW hk n_gW_g2
                replace B_gN := kp_blk B_gN hk n_gN_g2
                replace B_g6 := kp_blk B_g6 hk (Ne.symm n_g2_g6)
                replace O_D := Rv.rdv_keep O_D hk (fun k hk2 h2 => Nb_D_g2 (by rw [show k = g2 from h2] at hk2; exact hk2))
                replace K_0 := K_0.then_ hk (fun k h => by rw [show k = g2 from h]; exact Or.inr z_0_g2)
                replace B_g2 := B_g2'
                clear hk
                refine p_nil ?_
                refine x_normB ?_
                refine x_norm ?_
                refine c_reg R7_23_l ?_
                have O_D : Rv.RdV w66 none 0 3 (flO []) := Rv.rdv_nil _ 3
                have hc_D : (([] : L3).length ≤ 0 ∧ ((none : Option Addr) = none → 0 = 0)) := ⟨Nat.le_refl _, fun _ => rfl⟩
                have Nb_D_gW : ¬ OB none gW := ob_nil
                have Nb_D_gN : ¬ OB none gN := ob_nil
                have Nb_D_g2 : ¬ OB none g2 := ob_nil
                have Nb_D_g6 : ¬ OB none g6 := ob_nil
                have hrel2 : Rel ([] : LO) ([] : L3) := rel_nil
                have hok2 : Ok ([] : LO) := ok_nil
                have hlen9 : ([] : LO).length = ([] : L3).length := hrel2.len
                have hle2 := ok_len hrel2.keysl hok2
                refine q0 p7_23_0 hE (st_move rfl) ?_
                clear hE a; intro a hE
                have hnb_gW := blk_lt B_gW
                have hnb_gN := blk_lt B_gN
                have hnb_g2 := blk_lt B_g2
                have hnb_g6 := blk_lt B_g6
                have hnz_0 := K_0.kept.1
                have hno_D := fun k (h : OB none k) => (Rv.rdv_ob O_D h).2
                refine p_cons (s_call (xs := [Operand.tmp 131]) (args := [Value.pointer (some ⟨gW, 0, none⟩)]) p7_23_1 hE wn_none rfl rfl Try.func26 cl26 (open_any gW gN ckm64 esm64 ([] : LO) a0 a1 _ (by omega) B_gW B_gN MFm64 n_gW_gN) ?_)
                rintro e w70 ⟨A68, c69, rfl, O_q67, hk⟩
                replace B_gW := kp_blk B_gW hk (fun h => h)
                replace B_gN := kp_blk B_gN hk (fun h => h)
                replace B_g2 := kp_blk B_g2 hk (fun h => h)
                replace B_g6 := kp_blk B_g6 hk (fun h => h)
                replace O_D := Rv.rdv_keep O_D hk (fun _ _ h => h)
                replace K_0 := K_0.then_ hk (fun _ h => h.elim)
                have Nb_q67_gW : ¬ OB A68 gW := fun h => by have := (own_ob O_q67 h).1; have := hnb_gW; omega
                have Nb_q67_gN : ¬ OB A68 gN := fun h => by have := (own_ob O_q67 h).1; have := hnb_gN; omega
                have Nb_q67_g2 : ¬ OB A68 g2 := fun h => by have := (own_ob O_q67 h).1; have := hnb_g2; omega
                have Nb_q67_g6 : ¬ OB A68 g6 := fun h => by have := (own_ob O_q67 h).1; have := hnb_g6; omega
                have Z_0_q67 : ∀ k, OB A68 k → (fun _ => False) k ∨ w.heap.size ≤ k := fun k h => .inr (by have := (own_ob O_q67 h).1; have := hnz_0; omega)
                have NN_q67_D : ∀ k, OB A68 k → ¬ OB none k := fun k h h2 => by have := (own_ob O_q67 h).1; have := hno_D k h2; omega
                have NN_D_q67 : ∀ k, OB none k → ¬ OB A68 k := fun k h h2 => NN_q67_D k h2 h
                replace O_q67 := own_lower O_q67 hnz_0
                refine ⟨_, rfl, ?_⟩
                clear hE a; intro a hE
                refine q0 p7_23_2 hE (st_assign rfl) ?_
                clear hE a; intro a hE
                refine p_nil ?_
                refine x_norm ?_
                refine wp_seq ?_
                refine c_reg R7_24_l ?_
                refine q0 p7_24_0 hE (st_move rfl) ?_
                clear hE a; intro a hE
                refine q0 p7_24_1 hE (st_not rfl rfl) ?_
                clear hE a; intro a hE
                refine q0 p7_24_2 hE (st_move rfl) ?_
                clear hE a; intro a hE
                refine p_cons (s_still p7_24_3 hE (wn_some g7_24_2 rfl rfl) rfl (st_move rfl) ?_)
                clear hE a; intro a hE
                refine p_cons (s_still p7_24_4 hE (wn_some g7_24_2 rfl rfl) rfl (st_len Try.underlying35 rfl) ?_)
                clear hE a; intro a hE
                refine p_cons (s_still p7_24_5 hE (wn_some g7_24_2 rfl rfl) rfl (st_move rfl) ?_)
                clear hE a; intro a hE
                refine p_cons (s_still p7_24_6 hE (wn_some g7_24_2 rfl rfl) rfl (st_nil rfl) ?_)
                clear hE a; intro a hE
                refine p_cons (s_still p7_24_7 hE (wn_some g7_24_2 rfl rfl) rfl (st_fieldAddr Try.underlying66 rfl tS64 rfl rfl) ?_)
                clear hE a; intro a hE
                refine p_cons (s_still p7_24_8 hE (wn_some g7_24_2 rfl rfl) rfl (st_load1 tA64 rfl ((blk_cell B_g2 2).trans rfl)) ?_)
                clear hE a; intro a hE
                refine p_cons (s_still p7_24_9 hE (wn_some g7_24_2 rfl rfl) rfl (st_len Try.underlying64 rfl) ?_)
                clear hE a; intro a hE
                refine p_cons (s_still p7_24_10 hE (wn_some g7_24_2 rfl rfl) rfl (st_neq (b := false) rfl rfl (by rw [hlen9]; simp)) ?_)
                clear hE a; intro a hE
                refine q0 p7_24_11 hE (st_pick rfl rfl) ?_
                clear hE a; intro a hE
                refine p_nil ?_
                refine x_norm ?_
                refine c_cond (t := false) hE rfl ?_
                refine wp_skip ?_
                refine x_norm ?_
                refine c_reg R7_26_l ?_
                refine q0 p7_26_0 hE (st_assign rfl) ?_
                clear hE a; intro a hE
                refine p_nil ?_
                refine x_norm ?_
                refine wp_block ?_
                refine c_loop (α := Nat) (fun k a W => En 165 a [(0, Value.int .i64 a0), (1, Value.int .i64 a1), (2, Value.slice a2 z2.length cap2), (7, Value.pointer (some ⟨gW, 0, none⟩)), (8, Value.int .i64 0), (38, Value.bool false), (53, Value.bool false), (9, Value.pointer (some ⟨g2, 0, none⟩)), (10, Value.int .i64 (i : Int)), (65, Value.bool true), (11, Value.pointer (some ⟨g6, 0, none⟩)), (12, Value.bool true), (75, Value.int .u64 (xk % 18446744073709551616 % 4)), (81, Value.bool false), (96, Value.bool false), (107, Value.bool false), (17, Value.slice A68 (([] : LO).length) c69), (144, Value.bool false), (18, Value.int .i64 (k : Int))] ∧ k ≤ ([] : LO).length ∧ W.heap[gW]? = some (.cells #[Value.int .i64 a0, Value.int .i64 a1, Value.map (some gN)] 82 (0, 0)) ∧ W.heap[gN]? = some (.map esm64 ckm64) ∧ W.heap[g2]? = some (.cells #[Value.int .i64 a0, Value.int .i64 a1, Value.slice none 0 0] 66 (0, 0)) ∧ W.heap[g6]? = some (.cells #[Value.int .i64 xk, Value.int .i64 xs, Value.int .i64 xn] 68 (0, 0)) ∧ Rv.RdV W none 0 3 (flO []) ∧ ¬ OB none gW ∧ ¬ OB none gN ∧ ¬ OB none g2 ∧ ¬ OB none g6 ∧ (∀ k, OB none k → ¬ OB A68 k) ∧ W.ownsRow w.heap.size 3 1 (.slice A68 (([] : LO).length) c69) (([] : LO).length) (encs (Value.int .i64) (Ms.ks ([] : LO))) ∧ ¬ OB A68 gW ∧ ¬ OB A68 gN ∧ ¬ OB A68 g2 ∧ ¬ OB A68 g6 ∧ (∀ k, OB A68 k → (fun _ => False) k ∨ w.heap.size ≤ k) ∧ (∀ k, OB A68 k → ¬ OB none k) ∧ Kp w W (fun _ => False)) (fun k => ([] : LO).length - k) (0) ?_ ?_
                ·
                  exact ⟨En.sub hE ⟨rfl, rfl, rfl, rfl, rfl, rfl, rfl, rfl, rfl, rfl, rfl, rfl, rfl, rfl, rfl, rfl, rfl, rfl, rfl, trivial⟩, Nat.zero_le _, B_gW, B_gN, B_g2, B_g6, O_D, Nb_D_gW, Nb_D_gN, Nb_D_g2, Nb_D_g6, NN_D_q67, O_q67, Nb_q67_gW, Nb_q67_gN, Nb_q67_g2, Nb_q67_g6, Z_0_q67, NN_q67_D, K_0⟩
                ·
                  clear hE a
                  rintro k a w71 ⟨hE, hk9, B_gW, B_gN, B_g2, B_g6, O_D, Nb_D_gW, Nb_D_gN, Nb_D_g2, Nb_D_g6, NN_D_q67, O_q67, Nb_q67_gW, Nb_q67_gN, Nb_q67_g2, Nb_q67_g6, Z_0_q67, NN_q67_D, K_0⟩
                  refine wp_seq ?_
                  have hK1 : ¬ (k : Int) < (([] : LO).length : Int) := fun h => by have : ([] : LO).length = 0 := rfl; omega
                  refine c_reg R7_27_l ?_
                  refine q0 p7_27_0 hE (st_move rfl) ?_
                  clear hE a; intro a hE
                  refine q0 p7_27_1 hE (st_move rfl) ?_
                  clear hE a; intro a hE
                  refine q0 p7_27_2 hE (st_len Try.underlying35 rfl) ?_
                  clear hE a; intro a hE
                  refine q0 p7_27_3 hE (st_lss (b := false) rfl rfl (decide_eq_false hK1)) ?_
                  clear hE a; intro a hE
                  refine p_nil ?_
                  refine x_norm ?_
                  refine c_cond (t := false) hE rfl ?_
                  refine wp_exit ?_
                  refine x_exit ?_
                  refine x_exit ?_
                  refine x_in ?_
                  refine x_normB ?_
                  refine x_norm ?_
                  refine c_regL R7_9_l ?_
                  refine q0 p7_9_0 hE (st_move rfl) ?_
                  clear hE a; intro a hE
                  refine q0 p7_9_1 hE (st_add (z := (i : Int) + 1) rfl rfl (wr_i64 _ (by omega) (by omega))) ?_
                  clear hE a; intro a hE
                  refine q0 p7_9_2 hE (st_assign rfl) ?_
                  clear hE a; intro a hE
                  refine p_nil ?_
                  refine x_norm ?_
                  exact ⟨i + 1, by omega, none, 0, 0, esm64, ckm64, ([] : LO), ([] : L3), En.sub hE ⟨rfl, rfl, rfl, rfl, rfl, rfl, rfl, rfl, rfl, trivial⟩, MFm64, hrel2, hok2, rfl, hc_D, by omega, B_gW, B_gN, B_g2, O_D, Nb_D_gW, Nb_D_gN, Nb_D_g2, K_0⟩
        ·
          refine c_reg R7_8_l ?_
          refine q0 p7_8_0 hE (st_move rfl) ?_
          clear hE a; intro a hE
          refine q0 p7_8_1 hE (st_move rfl) ?_
          clear hE a; intro a hE
          refine q0 p7_8_2 hE (st_len Try.underlying62 rfl) ?_
          clear hE a; intro a hE
          refine q0 p7_8_3 hE (st_lss (b := true) rfl rfl (decide_eq_true hI1)) ?_
          clear hE a; intro a hE
          refine q0 p7_8_4 hE (st_move rfl) ?_
          clear hE a; intro a hE
          refine p_cons (s_still p7_8_5 hE (wn_some g7_8_4 rfl rfl) rfl (st_move rfl) ?_)
          clear hE a; intro a hE
          refine p_cons (s_still p7_8_6 hE (wn_some g7_8_4 rfl rfl) rfl (st_lss (b := false) rfl rfl (decide_eq_false hI2)) ?_)
          clear hE a; intro a hE
          refine q0 p7_8_7 hE (st_pick rfl rfl) ?_
          clear hE a; intro a hE
          refine p_nil ?_
          refine x_norm ?_
          refine c_cond (t := false) hE rfl ?_
          refine wp_exit ?_
          refine x_exit ?_
          refine x_exit ?_
          refine x_in ?_
          refine x_norm ?_
          refine c_reg R7_31_l ?_
          refine p_cons (s_call (xs := []) (args := []) p7_31_0 hE wn_none rfl rfl Try.func25 cl25 (kn20  _) ?_)
          rintro e w72 ⟨rfl, hk⟩
          replace B_gW := kp_blk B_gW hk (fun h => h)
          replace B_gN := kp_blk B_gN hk (fun h => h)
          replace B_g2 := kp_blk B_g2 hk (fun h => h)
          replace O_D := Rv.rdv_keep O_D hk (fun _ _ h => h)
          replace K_0 := K_0.then_ hk (fun _ h => h.elim)
          refine ⟨_, rfl, ?_⟩
          clear hE a; intro a hE
          refine q0 p7_31_1 hE (st_assign rfl) ?_
          clear hE a; intro a hE
          refine p_nil ?_
          refine x_norm ?_
          refine wp_ret ?_
          refine ret_one (v := Value.bool true) rfl hE (.tmp rfl .nil) ?_
          exact ⟨rfl, K_0.to (Nat.le_refl _) (fun _ h => h.elim)⟩
      ·
        refine c_reg R7_8_l ?_
        refine q0 p7_8_0 hE (st_move rfl) ?_
        clear hE a; intro a hE
        refine q0 p7_8_1 hE (st_move rfl) ?_
        clear hE a; intro a hE
        refine q0 p7_8_2 hE (st_len Try.underlying62 rfl) ?_
        clear hE a; intro a hE
        refine q0 p7_8_3 hE (st_lss (b := false) rfl rfl (decide_eq_false hI1)) ?_
        clear hE a; intro a hE
        refine q0 p7_8_4 hE (st_move rfl) ?_
        clear hE a; intro a hE
        refine p_cons (s_skip p7_8_5 hE (wn_some g7_8_4 rfl rfl) rfl ?_)
        clear hE a; intro a hE
        refine p_cons (s_skip p7_8_6 hE (wn_some g7_8_4 rfl rfl) rfl ?_)
        clear hE a; intro a hE
        refine q0 p7_8_7 hE (st_pick rfl rfl) ?_
        clear hE a; intro a hE
        refine p_nil ?_
        refine x_norm ?_
        refine c_cond (t := false) hE rfl ?_
        refine wp_exit ?_
        refine x_exit ?_
        refine x_exit ?_
        refine x_in ?_
        refine x_norm ?_
        refine c_reg R7_31_l ?_
        refine p_cons (s_call (xs := []) (args := []) p7_31_0 hE wn_none rfl rfl Try.func25 cl25 (kn20  _) ?_)
        rintro e w73 ⟨rfl, hk⟩
        replace B_gW := kp_blk B_gW hk (fun h => h)
        replace B_gN := kp_blk B_gN hk (fun h => h)
        replace B_g2 := kp_blk B_g2 hk (fun h => h)
        replace O_D := Rv.rdv_keep O_D hk (fun _ _ h => h)
        replace K_0 := K_0.then_ hk (fun _ h => h.elim)
        refine ⟨_, rfl, ?_⟩
        clear hE a; intro a hE
        refine q0 p7_31_1 hE (st_assign rfl) ?_
        clear hE a; intro a hE
        refine p_nil ?_
        refine x_norm ?_
        refine wp_ret ?_
        refine ret_one (v := Value.bool true) rfl hE (.tmp rfl .nil) ?_
        exact ⟨rfl, K_0.to (Nat.le_refl _) (fun _ h => h.elim)⟩
  ·
    refine c_reg R7_1_l ?_
    refine q0 p7_1_0 hE (st_move rfl) ?_
    clear hE a; intro a hE
    refine q0 p7_1_1 hE (st_move rfl) ?_
    clear hE a; intro a hE
    refine p_cons (s_call (xs := [Operand.tmp 20, Operand.tmp 21]) (args := [Value.int .i64 a0, Value.int .i64 a1]) p7_1_2 hE wn_none rfl rfl Try.func22 cl22 (new_no a0 a1 hOKN _) ?_)
    rintro e w74 ⟨rfl, hk⟩
    replace K_0 := K_0.then_ hk (fun _ h => h.elim)
    refine ⟨_, rfl, ?_⟩
    clear hE a; intro a hE
    refine q0 p7_1_3 hE (st_move rfl) ?_
    clear hE a; intro a hE
    refine q0 p7_1_4 hE (st_extract rfl rfl) ?_
    clear hE a; intro a hE
    refine q0 p7_1_5 hE (st_extract rfl rfl) ?_
    clear hE a; intro a hE
    refine q0 p7_1_6 hE (st_assign rfl) ?_
    clear hE a; intro a hE
    refine q0 p7_1_7 hE (st_assign rfl) ?_
    clear hE a; intro a hE
    refine p_nil ?_
    refine x_norm ?_
    refine wp_seq ?_
    rcases Decidable.em (a0 < 1) with hM1 | hM1
    ·
      refine c_reg R7_2_l ?_
      refine q0 p7_2_0 hE (st_move rfl) ?_
      clear hE a; intro a hE
      refine q0 p7_2_1 hE (st_lss (b := true) rfl rfl (decide_eq_true hM1)) ?_
      clear hE a; intro a hE
      refine q0 p7_2_2 hE (st_move rfl) ?_
      clear hE a; intro a hE
      refine p_cons (s_skip p7_2_3 hE (wn_some g7_2_2 rfl rfl) rfl ?_)
      clear hE a; intro a hE
      refine p_cons (s_skip p7_2_4 hE (wn_some g7_2_2 rfl rfl) rfl ?_)
      clear hE a; intro a hE
      refine q0 p7_2_5 hE (st_pick rfl rfl) ?_
      clear hE a; intro a hE
      refine q0 p7_2_6 hE (st_move rfl) ?_
      clear hE a; intro a hE
      refine p_cons (s_skip p7_2_7 hE (wn_some g7_2_6 rfl rfl) rfl ?_)
      clear hE a; intro a hE
      refine p_cons (s_skip p7_2_8 hE (wn_some g7_2_6 rfl rfl) rfl ?_)
      clear hE a; intro a hE
      refine q0 p7_2_9 hE (st_pick rfl rfl) ?_
      clear hE a; intro a hE
      refine q0 p7_2_10 hE (st_move rfl) ?_
      clear hE a; intro a hE
      refine p_cons (s_skip p7_2_11 hE (wn_some g7_2_10 rfl rfl) rfl ?_)
      clear hE a; intro a hE
      refine p_cons (s_skip p7_2_12 hE (wn_some g7_2_10 rfl rfl) rfl ?_)
      clear hE a; intro a hE
      refine q0 p7_2_13 hE (st_pick rfl rfl) ?_
      clear hE a; intro a hE
      refine p_nil ?_
      refine x_norm ?_
      refine c_cond (t := true) hE rfl ?_
      refine c_reg R7_3_l ?_
      refine p_cons (s_call (xs := []) (args := []) p7_3_0 hE wn_none rfl rfl Try.func25 cl25 (kn20  _) ?_)
      rintro e w75 ⟨rfl, hk⟩
      replace K_0 := K_0.then_ hk (fun _ h => h.elim)
      refine ⟨_, rfl, ?_⟩
      clear hE a; intro a hE
      refine q0 p7_3_1 hE (st_move rfl) ?_
      clear hE a; intro a hE
      refine p_cons (s_still p7_3_2 hE (wn_some g7_3_1 rfl rfl) rfl (st_move rfl) ?_)
      clear hE a; intro a hE
      refine p_cons (s_still p7_3_3 hE (wn_some g7_3_1 rfl rfl) rfl (st_eql (b := true) rfl rfl (by decide)) ?_)
      clear hE a; intro a hE
      refine q0 p7_3_4 hE (st_pick rfl rfl) ?_
      clear hE a; intro a hE
      refine q0 p7_3_5 hE (st_move rfl) ?_
      clear hE a; intro a hE
      refine p_cons (s_still p7_3_6 hE (wn_some g7_3_5 rfl rfl) rfl (st_move rfl) ?_)
      clear hE a; intro a hE
      refine p_cons (s_still p7_3_7 hE (wn_some g7_3_5 rfl rfl) rfl (st_eqlP (b := true) tP56 rfl rfl rfl) ?_)
      clear hE a; intro a hE
      refine q0 p7_3_8 hE (st_pick rfl rfl) ?_
      clear hE a; intro a hE
      refine q0 p7_3_9 hE (st_assign rfl) ?_
      clear hE a; intro a hE
      refine p_nil ?_
      refine x_norm ?_
      refine wp_ret ?_
      refine x_ret ?_
      refine ret_one (v := Value.bool true) rfl hE (.tmp rfl .nil) ?_
      exact ⟨rfl, K_0.to (Nat.le_refl _) (fun _ h => h.elim)⟩
    ·
      rcases Decidable.em (1048576 < a0) with hM2 | hM2
      ·
        refine c_reg R7_2_l ?_
        refine q0 p7_2_0 hE (st_move rfl) ?_
        clear hE a; intro a hE
        refine q0 p7_2_1 hE (st_lss (b := false) rfl rfl (decide_eq_false hM1)) ?_
        clear hE a; intro a hE
        refine q0 p7_2_2 hE (st_move rfl) ?_
        clear hE a; intro a hE
        refine p_cons (s_still p7_2_3 hE (wn_some g7_2_2 rfl rfl) rfl (st_move rfl) ?_)
        clear hE a; intro a hE
        refine p_cons (s_still p7_2_4 hE (wn_some g7_2_2 rfl rfl) rfl (st_gtr (b := true) rfl rfl (decide_eq_true hM2)) ?_)
        clear hE a; intro a hE
        refine q0 p7_2_5 hE (st_pick rfl rfl) ?_
        clear hE a; intro a hE
        refine q0 p7_2_6 hE (st_move rfl) ?_
        clear hE a; intro a hE
        refine p_cons (s_skip p7_2_7 hE (wn_some g7_2_6 rfl rfl) rfl ?_)
        clear hE a; intro a hE
        refine p_cons (s_skip p7_2_8 hE (wn_some g7_2_6 rfl rfl) rfl ?_)
        clear hE a; intro a hE
        refine q0 p7_2_9 hE (st_pick rfl rfl) ?_
        clear hE a; intro a hE
        refine q0 p7_2_10 hE (st_move rfl) ?_
        clear hE a; intro a hE
        refine p_cons (s_skip p7_2_11 hE (wn_some g7_2_10 rfl rfl) rfl ?_)
        clear hE a; intro a hE
        refine p_cons (s_skip p7_2_12 hE (wn_some g7_2_10 rfl rfl) rfl ?_)
        clear hE a; intro a hE
        refine q0 p7_2_13 hE (st_pick rfl rfl) ?_
        clear hE a; intro a hE
        refine p_nil ?_
        refine x_norm ?_
        refine c_cond (t := true) hE rfl ?_
        refine c_reg R7_3_l ?_
        refine p_cons (s_call (xs := []) (args := []) p7_3_0 hE wn_none rfl rfl Try.func25 cl25 (kn20  _) ?_)
        rintro e w76 ⟨rfl, hk⟩
        replace K_0 := K_0.then_ hk (fun _ h => h.elim)
        refine ⟨_, rfl, ?_⟩
        clear hE a; intro a hE
        refine q0 p7_3_1 hE (st_move rfl) ?_
        clear hE a; intro a hE
        refine p_cons (s_still p7_3_2 hE (wn_some g7_3_1 rfl rfl) rfl (st_move rfl) ?_)
        clear hE a; intro a hE
        refine p_cons (s_still p7_3_3 hE (wn_some g7_3_1 rfl rfl) rfl (st_eql (b := true) rfl rfl (by decide)) ?_)
        clear hE a; intro a hE
        refine q0 p7_3_4 hE (st_pick rfl rfl) ?_
        clear hE a; intro a hE
        refine q0 p7_3_5 hE (st_move rfl) ?_
        clear hE a; intro a hE
        refine p_cons (s_still p7_3_6 hE (wn_some g7_3_5 rfl rfl) rfl (st_move rfl) ?_)
        clear hE a; intro a hE
        refine p_cons (s_still p7_3_7 hE (wn_some g7_3_5 rfl rfl) rfl (st_eqlP (b := true) tP56 rfl rfl rfl) ?_)
        clear hE a; intro a hE
        refine q0 p7_3_8 hE (st_pick rfl rfl) ?_
        clear hE a; intro a hE
        refine q0 p7_3_9 hE (st_assign rfl) ?_
        clear hE a; intro a hE
        refine p_nil ?_
        refine x_norm ?_
        refine wp_ret ?_
        refine x_ret ?_
        refine ret_one (v := Value.bool true) rfl hE (.tmp rfl .nil) ?_
        exact ⟨rfl, K_0.to (Nat.le_refl _) (fun _ h => h.elim)⟩
      ·
        rcases Decidable.em (a1 < 1) with hM3 | hM3
        ·
          refine c_reg R7_2_l ?_
          refine q0 p7_2_0 hE (st_move rfl) ?_
          clear hE a; intro a hE
          refine q0 p7_2_1 hE (st_lss (b := false) rfl rfl (decide_eq_false hM1)) ?_
          clear hE a; intro a hE
          refine q0 p7_2_2 hE (st_move rfl) ?_
          clear hE a; intro a hE
          refine p_cons (s_still p7_2_3 hE (wn_some g7_2_2 rfl rfl) rfl (st_move rfl) ?_)
          clear hE a; intro a hE
          refine p_cons (s_still p7_2_4 hE (wn_some g7_2_2 rfl rfl) rfl (st_gtr (b := false) rfl rfl (decide_eq_false hM2)) ?_)
          clear hE a; intro a hE
          refine q0 p7_2_5 hE (st_pick rfl rfl) ?_
          clear hE a; intro a hE
          refine q0 p7_2_6 hE (st_move rfl) ?_
          clear hE a; intro a hE
          refine p_cons (s_still p7_2_7 hE (wn_some g7_2_6 rfl rfl) rfl (st_move rfl) ?_)
          clear hE a; intro a hE
          refine p_cons (s_still p7_2_8 hE (wn_some g7_2_6 rfl rfl) rfl (st_lss (b := true) rfl rfl (decide_eq_true hM3)) ?_)
          clear hE a; intro a hE
          refine q0 p7_2_9 hE (st_pick rfl rfl) ?_
          clear hE a; intro a hE
          refine q0 p7_2_10 hE (st_move rfl) ?_
          clear hE a; intro a hE
          refine p_cons (s_skip p7_2_11 hE (wn_some g7_2_10 rfl rfl) rfl ?_)
          clear hE a; intro a hE
          refine p_cons (s_skip p7_2_12 hE (wn_some g7_2_10 rfl rfl) rfl ?_)
          clear hE a; intro a hE
          refine q0 p7_2_13 hE (st_pick rfl rfl) ?_
          clear hE a; intro a hE
          refine p_nil ?_
          refine x_norm ?_
          refine c_cond (t := true) hE rfl ?_
          refine c_reg R7_3_l ?_
          refine p_cons (s_call (xs := []) (args := []) p7_3_0 hE wn_none rfl rfl Try.func25 cl25 (kn20  _) ?_)
          rintro e w77 ⟨rfl, hk⟩
          replace K_0 := K_0.then_ hk (fun _ h => h.elim)
          refine ⟨_, rfl, ?_⟩
          clear hE a; intro a hE
          refine q0 p7_3_1 hE (st_move rfl) ?_
          clear hE a; intro a hE
          refine p_cons (s_still p7_3_2 hE (wn_some g7_3_1 rfl rfl) rfl (st_move rfl) ?_)
          clear hE a; intro a hE
          refine p_cons (s_still p7_3_3 hE (wn_some g7_3_1 rfl rfl) rfl (st_eql (b := true) rfl rfl (by decide)) ?_)
          clear hE a; intro a hE
          refine q0 p7_3_4 hE (st_pick rfl rfl) ?_
          clear hE a; intro a hE
          refine q0 p7_3_5 hE (st_move rfl) ?_
          clear hE a; intro a hE
          refine p_cons (s_still p7_3_6 hE (wn_some g7_3_5 rfl rfl) rfl (st_move rfl) ?_)
          clear hE a; intro a hE
          refine p_cons (s_still p7_3_7 hE (wn_some g7_3_5 rfl rfl) rfl (st_eqlP (b := true) tP56 rfl rfl rfl) ?_)
          clear hE a; intro a hE
          refine q0 p7_3_8 hE (st_pick rfl rfl) ?_
          clear hE a; intro a hE
          refine q0 p7_3_9 hE (st_assign rfl) ?_
          clear hE a; intro a hE
          refine p_nil ?_
          refine x_norm ?_
          refine wp_ret ?_
          refine x_ret ?_
          refine ret_one (v := Value.bool true) rfl hE (.tmp rfl .nil) ?_
          exact ⟨rfl, K_0.to (Nat.le_refl _) (fun _ h => h.elim)⟩
        ·
          refine c_reg R7_2_l ?_
          refine q0 p7_2_0 hE (st_move rfl) ?_
          clear hE a; intro a hE
          refine q0 p7_2_1 hE (st_lss (b := false) rfl rfl (decide_eq_false hM1)) ?_
          clear hE a; intro a hE
          refine q0 p7_2_2 hE (st_move rfl) ?_
          clear hE a; intro a hE
          refine p_cons (s_still p7_2_3 hE (wn_some g7_2_2 rfl rfl) rfl (st_move rfl) ?_)
          clear hE a; intro a hE
          refine p_cons (s_still p7_2_4 hE (wn_some g7_2_2 rfl rfl) rfl (st_gtr (b := false) rfl rfl (decide_eq_false hM2)) ?_)
          clear hE a; intro a hE
          refine q0 p7_2_5 hE (st_pick rfl rfl) ?_
          clear hE a; intro a hE
          refine q0 p7_2_6 hE (st_move rfl) ?_
          clear hE a; intro a hE
          refine p_cons (s_still p7_2_7 hE (wn_some g7_2_6 rfl rfl) rfl (st_move rfl) ?_)
          clear hE a; intro a hE
          refine p_cons (s_still p7_2_8 hE (wn_some g7_2_6 rfl rfl) rfl (st_lss (b := false) rfl rfl (decide_eq_false hM3)) ?_)
          clear hE a; intro a hE
          refine q0 p7_2_9 hE (st_pick rfl rfl) ?_
          clear hE a; intro a hE
          refine q0 p7_2_10 hE (st_move rfl) ?_
          clear hE a; intro a hE
          refine p_cons (s_still p7_2_11 hE (wn_some g7_2_10 rfl rfl) rfl (st_move rfl) ?_)
          clear hE a; intro a hE
          refine p_cons (s_still p7_2_12 hE (wn_some g7_2_10 rfl rfl) rfl (st_gtr (b := true) rfl rfl (decide_eq_true (by omega))) ?_)
          clear hE a; intro a hE
          refine q0 p7_2_13 hE (st_pick rfl rfl) ?_
          clear hE a; intro a hE
          refine p_nil ?_
          refine x_norm ?_
          refine c_cond (t := true) hE rfl ?_
          refine c_reg R7_3_l ?_
          refine p_cons (s_call (xs := []) (args := []) p7_3_0 hE wn_none rfl rfl Try.func25 cl25 (kn20  _) ?_)
          rintro e w78 ⟨rfl, hk⟩
          replace K_0 := K_0.then_ hk (fun _ h => h.elim)
          refine ⟨_, rfl, ?_⟩
          clear hE a; intro a hE
          refine q0 p7_3_1 hE (st_move rfl) ?_
          clear hE a; intro a hE
          refine p_cons (s_still p7_3_2 hE (wn_some g7_3_1 rfl rfl) rfl (st_move rfl) ?_)
          clear hE a; intro a hE
          refine p_cons (s_still p7_3_3 hE (wn_some g7_3_1 rfl rfl) rfl (st_eql (b := true) rfl rfl (by decide)) ?_)
          clear hE a; intro a hE
          refine q0 p7_3_4 hE (st_pick rfl rfl) ?_
          clear hE a; intro a hE
          refine q0 p7_3_5 hE (st_move rfl) ?_
          clear hE a; intro a hE
          refine p_cons (s_still p7_3_6 hE (wn_some g7_3_5 rfl rfl) rfl (st_move rfl) ?_)
          clear hE a; intro a hE
          refine p_cons (s_still p7_3_7 hE (wn_some g7_3_5 rfl rfl) rfl (st_eqlP (b := true) tP56 rfl rfl rfl) ?_)
          clear hE a; intro a hE
          refine q0 p7_3_8 hE (st_pick rfl rfl) ?_
          clear hE a; intro a hE
          refine q0 p7_3_9 hE (st_assign rfl) ?_
          clear hE a; intro a hE
          refine p_nil ?_
          refine x_norm ?_
          refine wp_ret ?_
          refine x_ret ?_
          refine ret_one (v := Value.bool true) rfl hE (.tmp rfl .nil) ?_
          exact ⟨rfl, K_0.to (Nat.le_refl _) (fun _ h => h.elim)⟩
end Go.Proofs.Ytlmjbmeigclihaa.Uw
