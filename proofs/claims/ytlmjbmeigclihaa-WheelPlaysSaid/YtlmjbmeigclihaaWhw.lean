/- Layer 10: WheelPlays. -/
import Derived.Test.YtlmjbmeigclihaaWhe
import Derived.Test.YtlmjbmeigclihaaWhu
import Derived.Test.YtlmjbmeigclihaaKdOpen
set_option maxRecDepth 100000
set_option linter.unusedVariables false
set_option linter.unusedSimpArgs false
namespace Go.Proofs.Ytlmjbmeigclihaa.Wz
open Go.RowKit Go.Proofs.YtlmjbmeigclihaaW.PrintWords Go.Proofs.Ytlmjbmeigclihaa.Ds Go.Proofs.Ytlmjbmeigclihaa.Wp Go.Proofs.Ytlmjbmeigclihaa.Wh Go.Proofs.Ytlmjbmeigclihaa.Wd Go.Proofs.Ytlmjbmeigclihaa.We Go.Proofs.Ytlmjbmeigclihaa.Wo Go.Proofs.Ytlmjbmeigclihaa.Wu Go.Proofs.Ytlmjbmeigclihaa.KdOpen
open Go.Proofs.Ytlmjbmeigclihaa.Pk (Kp)
open Go.Proofs.Ytlmjbmeigclihaa.Mi (st_eqlP st_neqP x_normS x_retS x_exitS MapI getI putI delI)
section
variable {α : Type}
theorem del_consA {l : List (Int × α)} (hn : (l.map (·.1)).Nodup) {p : Int × α} (hp : p ∈ l) : l.Perm (p :: delI l p.1) := by
  induction l with
  | nil => cases hp
  | cons q l ih =>
    rw [List.map_cons, List.nodup_cons] at hn
    unfold delI
    by_cases hq : q.1 = p.1
    · rw [if_pos hq]
      rcases List.mem_cons.1 hp with rfl | hp
      · exact List.Perm.refl _
      · exact absurd (List.mem_map.2 ⟨p, hp, hq.symm⟩) hn.1
    · rw [if_neg hq]
      rcases List.mem_cons.1 hp with rfl | hp
      · exact absurd rfl hq
      · exact ((ih hn.2 hp).cons q).trans (List.Perm.swap ..)
theorem get_permA {l L : List (Int × α)} (h : l.Perm L) (hn : (l.map (·.1)).Nodup) (s : Int) : getI l s = getI L s := by
  have hn2 : (L.map (·.1)).Nodup := ((h.map (·.1)).nodup_iff).1 hn
  cases hg : getI l s with
  | none => exact (Mi.getI_none.2 (fun p hp => Mi.getI_none.1 hg p (h.mem_iff.2 hp))).symm
  | some v => exact (Mi.getI_of_mem hn2 (h.mem_iff.1 (Mi.getI_mem hg))).symm
theorem del_permA {l L : List (Int × α)} (h : l.Perm L) (hn : (l.map (·.1)).Nodup) (s : Int) : (delI l s).Perm (delI L s) := by
  have hn2 : (L.map (·.1)).Nodup := ((h.map (·.1)).nodup_iff).1 hn
  cases hg : getI l s with
  | none =>
    have h1 := Mi.getI_none.1 hg
    rw [Mi.delI_none h1, Mi.delI_none (fun p hp => h1 p (h.mem_iff.2 hp))]
    exact h
  | some v =>
    have hm := Mi.getI_mem hg
    exact List.Perm.cons_inv (((del_consA hn hm).symm.trans h).trans (del_consA hn2 (h.mem_iff.1 hm)))
theorem put_permA {l : List (Int × α)} (s : Int) (v : α) : (putI l s v).Perm ((s, v) :: delI l s) := by
  induction l with
  | nil => exact List.Perm.refl _
  | cons q l ih =>
    unfold putI delI
    by_cases hq : q.1 = s
    · rw [if_pos hq, if_pos hq]
    · rw [if_neg hq, if_neg hq]
      exact (ih.cons q).trans (List.Perm.swap ..)
end
/-- The program's timers and the document's. -/
structure RelW (l L : LW) : Prop where
  perm : l.Perm L
  nd : (L.map (·.1)).Nodup
  pos : ∀ p ∈ L, 1 ≤ p.2
theorem rw_nil : RelW [] [] := ⟨List.Perm.refl _, List.nodup_nil, fun p hp => by cases hp⟩
theorem RelW.ndl {l L : LW} (h : RelW l L) : (l.map (·.1)).Nodup := ((h.perm.map (·.1)).nodup_iff).2 h.nd
theorem RelW.del {l L : LW} (h : RelW l L) (s : Int) : RelW (delI l s) (delI L s) := ⟨del_permA h.perm h.ndl s, Mi.delI_nodup h.nd s, fun p hp => h.pos p ((Mi.delI_sub s).subset hp)⟩
theorem del_neA {L : LW} (hn : (L.map (·.1)).Nodup) (s : Int) : ∀ p ∈ delI L s, p.1 ≠ s := Mi.getI_none.1 (by rw [Mi.getI_del hn, if_pos rfl])
theorem RelW.set {l L : LW} (h : RelW l L) {now x n : Int} (hnow : 0 ≤ now) : RelW (setW l now x n) (setR L now x n) := by
  unfold setW setR
  split
  · rename_i hc
    have hn1 : 1 ≤ n := by
      unfold codeW at hc
      split at hc
      · rename_i h1; exact h1.2.1
      · cases hc
    refine ⟨(put_permA x _).trans (((del_permA h.perm h.ndl x).cons _).trans (List.perm_append_singleton _ _).symm), ?_, fun p hp => ?_⟩
    · rw [List.map_append, List.nodup_append]
      refine ⟨Mi.delI_nodup h.nd x, by simp, fun a ha b hb => ?_⟩
      obtain ⟨p, hp, rfl⟩ := List.mem_map.1 ha
      have : b = x := by simpa using hb
      rw [this]
      exact del_neA h.nd x p hp
    · rcases List.mem_append.1 hp with hp | hp
      · exact h.pos p ((Mi.delI_sub x).subset hp)
      · rw [List.mem_singleton.1 hp]; show 1 ≤ now + n; omega
  · exact h
theorem RelW.fire {l L : LW} (h : RelW l L) (u : Int) : fireO u l = fireO u L ∧ RelW (fireS u l).2 (fireS u L).2 := by
  obtain ⟨a1, a2, a3⟩ := fire_spec u l h.ndl
  obtain ⟨b1, b2, b3⟩ := fire_spec u L h.nd
  refine ⟨?_, ?_, ?_, ?_⟩
  · unfold fireO
    rw [lex_eq (a1.trans ((h.perm.filter _).trans b1.symm)) a2 b2]
  · rw [a3, b3]; exact h.perm.filter _
  · rw [b3]; exact List.Pairwise.sublist ((List.filter_sublist).map _) h.nd
  · rw [b3]; exact fun p hp => h.pos p (List.mem_filter.1 hp).1
theorem RelW.first {l L : LW} (h : RelW l L) : firstI l = firstI L := by
  cases hl : firstI l with
  | none => have := firstI_none.1 hl; subst this; have := h.perm.nil_eq; subst this; exact hl.symm
  | some p =>
    obtain ⟨a1, a2⟩ := firstI_spec hl
    cases hL : firstI L with
    | none => have := firstI_none.1 hL; subst this; have := h.perm.eq_nil; subst this; cases hl
    | some q =>
      obtain ⟨b1, b2⟩ := firstI_spec hL
      have c1 := a2 q (h.perm.mem_iff.2 b1)
      have c2 := b2 p (h.perm.mem_iff.1 a1)
      rcases lex_not c1 with e | e
      · rw [e]
      · exact absurd e c2
theorem set_lenW (l : LW) (now x n : Int) : (setW l now x n).length ≤ l.length + 1 := by
  unfold setW
  split
  · have := Mi.putI_len l x (now + n); split at this <;> omega
  · exact Nat.le_succ _
theorem fire_lenW {l : LW} (hn : (l.map (·.1)).Nodup) (u : Int) : (fireS u l).2.length ≤ l.length ∧ (fireO u l).length ≤ l.length := by
  obtain ⟨a1, a2, a3⟩ := fire_spec u l hn
  refine ⟨by rw [a3]; exact List.length_filter_le _ _, ?_⟩
  unfold fireO
  rw [List.length_map, a1.length_eq]
  exact List.length_filter_le _ _
theorem del_cnt {l : LW} {x : Int} {b : Bool} (h : (getI l x).isSome = b) : (l.length : Int) - ((delI l x).length : Int) = if b then 1 else 0 := by
  have h1 := Mi.delI_len l x
  cases b with
  | true =>
    rw [h] at h1
    obtain ⟨v, hv⟩ := Option.isSome_iff_exists.1 h
    have := List.length_pos_of_mem (Mi.getI_mem hv)
    simp only [if_true] at h1 ⊢
    omega
  | false =>
    rw [h] at h1
    rw [if_neg (by decide)] at h1
    rw [if_neg (by decide), h1]
    omega
abbrev dA : Kd (Int × Int × Int) := Kd.pair (Kd.int .i64) (Kd.pair (Kd.int .i64) (Kd.int .i64))
abbrev zA : Int × Int × Int := (0, 0, 0)
theorem act_open {w : World} {k x y : Int} {l : List Value} (h : Kd.K dA w (k, x, y) l) : l = [.int .i64 k, .int .i64 x, .int .i64 y] := by
  obtain ⟨c0, d0, rfl, h0, c1, d1, rfl, h1, h2⟩ := h
  subst h0; subst h1
  rw [show d1 = [Value.int .i64 y] from h2]
  rfl
theorem del_cnt1 {l : LW} {x : Int} (h : (getI l x).isSome = true) : (l.length : Int) - ((delI l x).length : Int) = 1 := by have := del_cnt h; rw [if_pos rfl] at this; exact this
theorem del_cnt0 {l : LW} {x : Int} (h : (getI l x).isSome = false) : (l.length : Int) - ((delI l x).length : Int) = 0 := by have := del_cnt h; rw [if_neg (by decide)] at this; exact this
theorem R21_0_l : List.range (regOf Try.f21 0).size = [0] := by kernel_rfl
theorem R21_1_l : List.range (regOf Try.f21 1).size = [0, 1, 2, 3, 4, 5, 6, 7] := by kernel_rfl
theorem R21_2_l : List.range (regOf Try.f21 2).size = [0, 1, 2, 3, 4, 5, 6] := by kernel_rfl
theorem R21_3_l : List.range (regOf Try.f21 3).size = [0, 1, 2, 3, 4, 5, 6] := by kernel_rfl
theorem R21_4_l : List.range (regOf Try.f21 4).size = [0, 1, 2, 3, 4, 5, 6, 7, 8, 9, 10, 11, 12, 13, 14, 15, 16, 17, 18] := by kernel_rfl
theorem R21_5_l : List.range (regOf Try.f21 5).size = [0] := by kernel_rfl
theorem R21_6_l : List.range (regOf Try.f21 6).size = [0, 1, 2, 3, 4, 5, 6, 7, 8, 9, 10, 11, 12, 13, 14, 15, 16, 17, 18] := by kernel_rfl
theorem R21_7_l : List.range (regOf Try.f21 7).size = [0] := by kernel_rfl
theorem R21_8_l : List.range (regOf Try.f21 8).size = [0, 1, 2, 3, 4, 5, 6, 7, 8, 9, 10, 11, 12, 13, 14, 15, 16, 17] := by kernel_rfl
theorem body21 : Try.f21.body = some (.seq (.region 0 (regOf Try.f21 0) false) (.seq (.region 1 (regOf Try.f21 1) false) (.seq (.region 2 (regOf Try.f21 2) false) (.seq (.region 3 (regOf Try.f21 3) false) (.seq (.seq (.region 4 (regOf Try.f21 4) false) (.cond (Operand.tmp 47) (.seq (.region 5 (regOf Try.f21 5) false) (.ret)) (.skip))) (.seq (.seq (.region 6 (regOf Try.f21 6) false) (.cond (Operand.tmp 66) (.seq (.region 7 (regOf Try.f21 7) false) (.ret)) (.skip))) (.seq (.region 8 (regOf Try.f21 8) true) (.ret)))))))) := by kernel_rfl
theorem p21_0_0 : pj (regOf Try.f21 0) 0 = some (some 6, .assign (.const (.bool false)), 4, none) := by kernel_rfl
theorem p21_1_0 : pj (regOf Try.f21 1) 0 = some (some 14, .move (.tmp 0), 24, none) := by kernel_rfl
theorem p21_1_1 : pj (regOf Try.f21 1) 1 = some (some 15, .move (.tmp 2), 3, none) := by kernel_rfl
theorem p21_1_2 : pj (regOf Try.f21 1) 2 = some (some 16, .call { callee := .value (.func 37), args := #[.tmp 14, .tmp 15], argTypes := #[24, 3] }, 42, none) := by kernel_rfl
theorem cl37 : callable Try.f37 = true := by kernel_rfl
theorem p21_1_3 : pj (regOf Try.f21 1) 3 = some (some 13, .move (.tmp 16), 42, none) := by kernel_rfl
theorem p21_1_4 : pj (regOf Try.f21 1) 4 = some (some 17, .extract (.tmp 13) 0, 3, none) := by kernel_rfl
theorem p21_1_5 : pj (regOf Try.f21 1) 5 = some (some 18, .extract (.tmp 13) 1, 30, none) := by kernel_rfl
theorem p21_1_6 : pj (regOf Try.f21 1) 6 = some (some 7, .assign (.tmp 17), 3, none) := by kernel_rfl
theorem p21_1_7 : pj (regOf Try.f21 1) 7 = some (some 8, .assign (.tmp 18), 30, none) := by kernel_rfl
theorem p21_2_0 : pj (regOf Try.f21 2) 0 = some (some 20, .move (.tmp 0), 24, none) := by kernel_rfl
theorem p21_2_1 : pj (regOf Try.f21 2) 1 = some (some 21, .call { callee := .value (.func 14), args := #[.tmp 20], argTypes := #[24] }, 42, none) := by kernel_rfl
theorem cl14 : callable Try.f14 = true := by kernel_rfl
theorem p21_2_2 : pj (regOf Try.f21 2) 2 = some (some 19, .move (.tmp 21), 42, none) := by kernel_rfl
theorem p21_2_3 : pj (regOf Try.f21 2) 3 = some (some 22, .extract (.tmp 19) 0, 3, none) := by kernel_rfl
theorem p21_2_4 : pj (regOf Try.f21 2) 4 = some (some 23, .extract (.tmp 19) 1, 30, none) := by kernel_rfl
theorem p21_2_5 : pj (regOf Try.f21 2) 5 = some (some 9, .assign (.tmp 22), 3, none) := by kernel_rfl
theorem p21_2_6 : pj (regOf Try.f21 2) 6 = some (some 10, .assign (.tmp 23), 30, none) := by kernel_rfl
theorem p21_3_0 : pj (regOf Try.f21 3) 0 = some (some 24, .move (.tmp 1), 47, none) := by kernel_rfl
theorem p21_3_1 : pj (regOf Try.f21 3) 1 = some (some 25, .move (.tmp 2), 3, none) := by kernel_rfl
theorem p21_3_2 : pj (regOf Try.f21 3) 2 = some (some 26, .call { callee := .value (.func 38), args := #[.tmp 24, .tmp 25], argTypes := #[47, 3] }, 3, none) := by kernel_rfl
theorem cl38 : callable Try.f38 = true := by kernel_rfl
theorem p21_3_3 : pj (regOf Try.f21 3) 3 = some (some 27, .move (.tmp 1), 47, none) := by kernel_rfl
theorem p21_3_4 : pj (regOf Try.f21 3) 4 = some (some 28, .call { callee := .value (.func 39), args := #[.tmp 27], argTypes := #[47] }, 3, none) := by kernel_rfl
theorem cl39 : callable Try.f39 = true := by kernel_rfl
theorem p21_3_5 : pj (regOf Try.f21 3) 5 = some (some 11, .assign (.tmp 26), 3, none) := by kernel_rfl
theorem p21_3_6 : pj (regOf Try.f21 3) 6 = some (some 12, .assign (.tmp 28), 3, none) := by kernel_rfl
theorem p21_4_0 : pj (regOf Try.f21 4) 0 = some (some 29, .move (.tmp 11), 3, none) := by kernel_rfl
theorem p21_4_1 : pj (regOf Try.f21 4) 1 = some (some 30, .binOp .lss 3 (.tmp 29) (.const (.int .i64 0)) 3, 4, none) := by kernel_rfl
theorem p21_4_2 : pj (regOf Try.f21 4) 2 = some (some 31, .move (.tmp 30), 4, none) := by kernel_rfl
theorem p21_4_3 : pj (regOf Try.f21 4) 3 = some (some 32, .move (.tmp 8), 30, some (2, true)) := by kernel_rfl
theorem g21_4_2 : dstOf (regOf Try.f21 4) 2 = some 31 := by kernel_rfl
theorem p21_4_4 : pj (regOf Try.f21 4) 4 = some (some 33, .binOp .neq 30 (.tmp 32) (.const (.int .i64 8)) 30, 4, some (2, true)) := by kernel_rfl
theorem p21_4_5 : pj (regOf Try.f21 4) 5 = some (some 34, .pick (.tmp 31) (.tmp 33) (.const (.bool false)), 4, none) := by kernel_rfl
theorem p21_4_6 : pj (regOf Try.f21 4) 6 = some (some 35, .move (.tmp 34), 4, none) := by kernel_rfl
theorem p21_4_7 : pj (regOf Try.f21 4) 7 = some (some 36, .move (.tmp 11), 3, some (6, false)) := by kernel_rfl
theorem g21_4_6 : dstOf (regOf Try.f21 4) 6 = some 35 := by kernel_rfl
theorem p21_4_8 : pj (regOf Try.f21 4) 8 = some (some 37, .binOp .geq 3 (.tmp 36) (.const (.int .i64 0)) 3, 4, some (6, false)) := by kernel_rfl
theorem p21_4_9 : pj (regOf Try.f21 4) 9 = some (some 38, .move (.tmp 37), 4, some (6, false)) := by kernel_rfl
theorem p21_4_10 : pj (regOf Try.f21 4) 10 = some (some 39, .move (.tmp 8), 30, some (9, true)) := by kernel_rfl
theorem g21_4_9 : dstOf (regOf Try.f21 4) 9 = some 38 := by kernel_rfl
theorem p21_4_11 : pj (regOf Try.f21 4) 11 = some (some 40, .binOp .neq 30 (.tmp 39) (.const (.int .i64 0)) 30, 4, some (9, true)) := by kernel_rfl
theorem p21_4_12 : pj (regOf Try.f21 4) 12 = some (some 41, .move (.tmp 40), 4, some (9, true)) := by kernel_rfl
theorem p21_4_13 : pj (regOf Try.f21 4) 13 = some (some 42, .move (.tmp 7), 3, some (12, false)) := by kernel_rfl
theorem g21_4_12 : dstOf (regOf Try.f21 4) 12 = some 41 := by kernel_rfl
theorem p21_4_14 : pj (regOf Try.f21 4) 14 = some (some 43, .move (.tmp 11), 3, some (12, false)) := by kernel_rfl
theorem p21_4_15 : pj (regOf Try.f21 4) 15 = some (some 44, .binOp .neq 3 (.tmp 42) (.tmp 43) 3, 4, some (12, false)) := by kernel_rfl
theorem p21_4_16 : pj (regOf Try.f21 4) 16 = some (some 45, .pick (.tmp 41) (.const (.bool true)) (.tmp 44), 4, some (9, true)) := by kernel_rfl
theorem p21_4_17 : pj (regOf Try.f21 4) 17 = some (some 46, .pick (.tmp 38) (.tmp 45) (.const (.bool false)), 4, some (6, false)) := by kernel_rfl
theorem p21_4_18 : pj (regOf Try.f21 4) 18 = some (some 47, .pick (.tmp 35) (.const (.bool true)) (.tmp 46), 4, none) := by kernel_rfl
theorem p21_6_0 : pj (regOf Try.f21 6) 0 = some (some 48, .move (.tmp 12), 3, none) := by kernel_rfl
theorem p21_6_1 : pj (regOf Try.f21 6) 1 = some (some 49, .binOp .lss 3 (.tmp 48) (.const (.int .i64 0)) 3, 4, none) := by kernel_rfl
theorem p21_6_2 : pj (regOf Try.f21 6) 2 = some (some 50, .move (.tmp 49), 4, none) := by kernel_rfl
theorem p21_6_3 : pj (regOf Try.f21 6) 3 = some (some 51, .move (.tmp 10), 30, some (2, true)) := by kernel_rfl
theorem g21_6_2 : dstOf (regOf Try.f21 6) 2 = some 50 := by kernel_rfl
theorem p21_6_4 : pj (regOf Try.f21 6) 4 = some (some 52, .binOp .neq 30 (.tmp 51) (.const (.int .i64 8)) 30, 4, some (2, true)) := by kernel_rfl
theorem p21_6_5 : pj (regOf Try.f21 6) 5 = some (some 53, .pick (.tmp 50) (.tmp 52) (.const (.bool false)), 4, none) := by kernel_rfl
theorem p21_6_6 : pj (regOf Try.f21 6) 6 = some (some 54, .move (.tmp 53), 4, none) := by kernel_rfl
theorem p21_6_7 : pj (regOf Try.f21 6) 7 = some (some 55, .move (.tmp 12), 3, some (6, false)) := by kernel_rfl
theorem g21_6_6 : dstOf (regOf Try.f21 6) 6 = some 54 := by kernel_rfl
theorem p21_6_8 : pj (regOf Try.f21 6) 8 = some (some 56, .binOp .geq 3 (.tmp 55) (.const (.int .i64 0)) 3, 4, some (6, false)) := by kernel_rfl
theorem p21_6_9 : pj (regOf Try.f21 6) 9 = some (some 57, .move (.tmp 56), 4, some (6, false)) := by kernel_rfl
theorem p21_6_10 : pj (regOf Try.f21 6) 10 = some (some 58, .move (.tmp 10), 30, some (9, true)) := by kernel_rfl
theorem g21_6_9 : dstOf (regOf Try.f21 6) 9 = some 57 := by kernel_rfl
theorem p21_6_11 : pj (regOf Try.f21 6) 11 = some (some 59, .binOp .neq 30 (.tmp 58) (.const (.int .i64 0)) 30, 4, some (9, true)) := by kernel_rfl
theorem p21_6_12 : pj (regOf Try.f21 6) 12 = some (some 60, .move (.tmp 59), 4, some (9, true)) := by kernel_rfl
theorem p21_6_13 : pj (regOf Try.f21 6) 13 = some (some 61, .move (.tmp 9), 3, some (12, false)) := by kernel_rfl
theorem g21_6_12 : dstOf (regOf Try.f21 6) 12 = some 60 := by kernel_rfl
theorem p21_6_14 : pj (regOf Try.f21 6) 14 = some (some 62, .move (.tmp 12), 3, some (12, false)) := by kernel_rfl
theorem p21_6_15 : pj (regOf Try.f21 6) 15 = some (some 63, .binOp .neq 3 (.tmp 61) (.tmp 62) 3, 4, some (12, false)) := by kernel_rfl
theorem p21_6_16 : pj (regOf Try.f21 6) 16 = some (some 64, .pick (.tmp 60) (.const (.bool true)) (.tmp 63), 4, some (9, true)) := by kernel_rfl
theorem p21_6_17 : pj (regOf Try.f21 6) 17 = some (some 65, .pick (.tmp 57) (.tmp 64) (.const (.bool false)), 4, some (6, false)) := by kernel_rfl
theorem p21_6_18 : pj (regOf Try.f21 6) 18 = some (some 66, .pick (.tmp 54) (.const (.bool true)) (.tmp 65), 4, none) := by kernel_rfl
theorem ns21_8 : Region.noSelect (regOf Try.f21 8) = true := by kernel_rfl
theorem p21_8_0 : pj (regOf Try.f21 8) 0 = some (some 67, .move (.tmp 0), 24, none) := by kernel_rfl
theorem p21_8_2 : pj (regOf Try.f21 8) 2 = some (some 69, .move (.tmp 1), 47, none) := by kernel_rfl
theorem p21_8_3 : pj (regOf Try.f21 8) 3 = some (some 70, .nilCheck (.tmp 69), 0, none) := by kernel_rfl
theorem p21_8_4 : pj (regOf Try.f21 8) 4 = some (some 71, .fieldAddr 50 (.tmp 70) 0, 0, none) := by kernel_rfl
theorem tS3 : (Try.prog.info? 3).map (·.size) = some 1 := by kernel_rfl
theorem p21_8_5 : pj (regOf Try.f21 8) 5 = some (some 72, .load 3 (.tmp 71), 3, none) := by kernel_rfl
theorem tA3 : (Try.prog.underlying 3).map aggD = some false := by kernel_rfl
theorem p21_8_1 : pj (regOf Try.f21 8) 1 = some (some 68, .call { callee := .value (.func 17), args := #[.tmp 67], argTypes := #[24] }, 3, none) := by kernel_rfl
theorem cl17 : callable Try.f17 = true := by kernel_rfl
theorem p21_8_6 : pj (regOf Try.f21 8) 6 = some (some 73, .binOp .eql 3 (.tmp 68) (.tmp 72) 3, 4, none) := by kernel_rfl
theorem p21_8_7 : pj (regOf Try.f21 8) 7 = some (some 74, .move (.tmp 73), 4, none) := by kernel_rfl
theorem g21_8_7 : dstOf (regOf Try.f21 8) 7 = some 74 := by kernel_rfl
theorem p21_8_8 : pj (regOf Try.f21 8) 8 = some (some 75, .move (.tmp 0), 24, some (7, true)) := by kernel_rfl
theorem p21_8_10 : pj (regOf Try.f21 8) 10 = some (some 77, .move (.tmp 1), 47, some (7, true)) := by kernel_rfl
theorem p21_8_11 : pj (regOf Try.f21 8) 11 = some (some 78, .nilCheck (.tmp 77), 0, some (7, true)) := by kernel_rfl
theorem p21_8_12 : pj (regOf Try.f21 8) 12 = some (some 79, .fieldAddr 50 (.tmp 78) 1, 0, some (7, true)) := by kernel_rfl
theorem tS48 : (Try.prog.info? 48).map (·.size) = some 1 := by kernel_rfl
theorem p21_8_13 : pj (regOf Try.f21 8) 13 = some (some 80, .load 48 (.tmp 79), 48, some (7, true)) := by kernel_rfl
theorem tA48 : (Try.prog.underlying 48).map aggD = some false := by kernel_rfl
theorem p21_8_14 : pj (regOf Try.f21 8) 14 = some (some 81, .call { callee := .builtin .len, args := #[.tmp 80], argTypes := #[48] }, 3, some (7, true)) := by kernel_rfl
theorem p21_8_9 : pj (regOf Try.f21 8) 9 = some (some 76, .call { callee := .value (.func 16), args := #[.tmp 75], argTypes := #[24] }, 3, some (7, true)) := by kernel_rfl
theorem cl16 : callable Try.f16 = true := by kernel_rfl
theorem p21_8_15 : pj (regOf Try.f21 8) 15 = some (some 82, .binOp .eql 3 (.tmp 76) (.tmp 81) 3, 4, some (7, true)) := by kernel_rfl
theorem p21_8_16 : pj (regOf Try.f21 8) 16 = some (some 83, .pick (.tmp 74) (.tmp 82) (.const (.bool false)), 4, none) := by kernel_rfl
theorem p21_8_17 : pj (regOf Try.f21 8) 17 = some (some 6, .assign (.tmp 83), 4, none) := by kernel_rfl
set_option maxHeartbeats 4000000 in
theorem tells_any (g gd : Nat) (mb : Option Nat) (l L : LW) (now : Int) (A : Option Addr) (c : Nat) (x : Int) (hrel : RelW l L) (hll : L.length ≤ 1000) (w : World) (hg : w.heap[g]? = some (.cells #[.int .i64 now, .map mb] 29 (0, 0))) (hM : Wm w mb l) (hne : ¬ OB (mA mb) g) (hd : w.heap[gd]? = some (.cells #[.int .i64 now, .slice A L.length c] 50 (0, 0))) (hR : Rv.RdV w A L.length 2 (flT L)) (hcA : L.length ≤ c ∧ (A = none → c = 0)) (hnd : ¬ OB A gd) : Calls Try.prog 21 #[.pointer (some ⟨g, 0, none⟩), .pointer (some ⟨gd, 0, none⟩), .int .i64 x] w fun e w' => e = .returned (.bool true) ∧ Kp w w' (fun _ => False) := by
  have K_0 := Kp.refl w (fun _ => False)
  have B_g := hg
  have B_gd := hd
  have hlen9 := hrel.perm.length_eq
  have O_W := hM
  have O_D := hR
  have Nb_W_g := hne
  have Nb_D_gd := hnd
  refine enter (args := [Value.pointer (some ⟨g, 0, none⟩), Value.pointer (some ⟨gd, 0, none⟩), Value.int .i64 x]) (n := 84) Try.func21 body21 rfl rfl rfl ?_
  intro a hE
  refine c_reg R21_0_l ?_
  refine q0 p21_0_0 hE (st_assign rfl) ?_
  clear hE a; intro a hE
  refine p_nil ?_
  refine x_norm ?_
  rcases Decidable.em ((getI L x).isSome = true) with hHAS | hHAS
  ·
    obtain ⟨v, hv⟩ := Option.isSome_iff_exists.1 hHAS
    have hvp : 1 ≤ v := hrel.pos _ (Mi.getI_mem hv)
    have hvl := (get_permA hrel.perm hrel.ndl x).trans hv
    rcases Decidable.em (firstI L = none) with hFN | hFN
    ·
      have hq := hFN
      have hql := hrel.first.trans hq
      refine c_reg R21_1_l ?_
      refine q0 p21_1_0 hE (st_move rfl) ?_
      clear hE a; intro a hE
      refine q0 p21_1_1 hE (st_move rfl) ?_
      clear hE a; intro a hE
      have hct : Calls Try.prog 37 #[Value.pointer (some ⟨g, 0, none⟩), Value.int .i64 x] w fun e w' => e = .returned (Value.tuple #[Value.int .i64 v, Value.int .i64 0]) ∧ Kp w w' (fun _ => False) := by
        have h := due_u g now mb l x w B_g O_W hne
        unfold dueP at h
        rw [hvl] at h
        exact h
      refine p_cons (s_call (xs := [Operand.tmp 14, Operand.tmp 15]) (args := [Value.pointer (some ⟨g, 0, none⟩), Value.int .i64 x]) p21_1_2 hE wn_none rfl rfl Try.func37 cl37 (hct) ?_)
      rintro e w1 ⟨rfl, hk⟩
      replace B_g := kp_blk B_g hk (fun h => h)
      replace B_gd := kp_blk B_gd hk (fun h => h)
      replace O_W := wm_keep O_W hk (fun _ _ h => h)
      replace O_D := Rv.rdv_keep O_D hk (fun _ _ h => h)
      replace K_0 := K_0.then_ hk (fun _ h => h.elim)
      refine ⟨_, rfl, ?_⟩
      clear hE a; intro a hE
      refine q0 p21_1_3 hE (st_move rfl) ?_
      clear hE a; intro a hE
      refine q0 p21_1_4 hE (st_extract rfl rfl) ?_
      clear hE a; intro a hE
      refine q0 p21_1_5 hE (st_extract rfl rfl) ?_
      clear hE a; intro a hE
      refine q0 p21_1_6 hE (st_assign rfl) ?_
      clear hE a; intro a hE
      refine q0 p21_1_7 hE (st_assign rfl) ?_
      clear hE a; intro a hE
      refine p_nil ?_
      refine x_norm ?_
      refine c_reg R21_2_l ?_
      refine q0 p21_2_0 hE (st_move rfl) ?_
      clear hE a; intro a hE
      have hct : Calls Try.prog 14 #[Value.pointer (some ⟨g, 0, none⟩)] w1 fun e w' => e = .returned (Value.tuple #[Value.int .i64 0, Value.int .i64 8]) ∧ Kp w1 w' (fun _ => False) := by
        have h := next_u g now mb l w1 (by omega) B_g O_W hne
        unfold nextP at h
        rw [hql] at h
        exact h
      refine p_cons (s_call (xs := [Operand.tmp 20]) (args := [Value.pointer (some ⟨g, 0, none⟩)]) p21_2_1 hE wn_none rfl rfl Try.func14 cl14 (hct) ?_)
      rintro e w2 ⟨rfl, hk⟩
      replace B_g := kp_blk B_g hk (fun h => h)
      replace B_gd := kp_blk B_gd hk (fun h => h)
      replace O_W := wm_keep O_W hk (fun _ _ h => h)
      replace O_D := Rv.rdv_keep O_D hk (fun _ _ h => h)
      replace K_0 := K_0.then_ hk (fun _ h => h.elim)
      refine ⟨_, rfl, ?_⟩
      clear hE a; intro a hE
      refine q0 p21_2_2 hE (st_move rfl) ?_
      clear hE a; intro a hE
      refine q0 p21_2_3 hE (st_extract rfl rfl) ?_
      clear hE a; intro a hE
      refine q0 p21_2_4 hE (st_extract rfl rfl) ?_
      clear hE a; intro a hE
      refine q0 p21_2_5 hE (st_assign rfl) ?_
      clear hE a; intro a hE
      refine q0 p21_2_6 hE (st_assign rfl) ?_
      clear hE a; intro a hE
      refine p_nil ?_
      refine x_norm ?_
      refine c_reg R21_3_l ?_
      refine q0 p21_3_0 hE (st_move rfl) ?_
      clear hE a; intro a hE
      refine q0 p21_3_1 hE (st_move rfl) ?_
      clear hE a; intro a hE
      have hct : Calls Try.prog 38 #[Value.pointer (some ⟨gd, 0, none⟩), Value.int .i64 x] w2 fun e w' => e = .returned (Value.int .i64 v) ∧ Kp w2 w' (fun _ => False) := by
        have h := rdue_any gd A c L now x w2 B_gd O_D hcA hll hnd
        rw [hv] at h
        exact h
      refine p_cons (s_call (xs := [Operand.tmp 24, Operand.tmp 25]) (args := [Value.pointer (some ⟨gd, 0, none⟩), Value.int .i64 x]) p21_3_2 hE wn_none rfl rfl Try.func38 cl38 (hct) ?_)
      rintro e w3 ⟨rfl, hk⟩
      replace B_g := kp_blk B_g hk (fun h => h)
      replace B_gd := kp_blk B_gd hk (fun h => h)
      replace O_W := wm_keep O_W hk (fun _ _ h => h)
      replace O_D := Rv.rdv_keep O_D hk (fun _ _ h => h)
      replace K_0 := K_0.then_ hk (fun _ h => h.elim)
      refine ⟨_, rfl, ?_⟩
      clear hE a; intro a hE
      refine q0 p21_3_3 hE (st_move rfl) ?_
      clear hE a; intro a hE
      have hct : Calls Try.prog 39 #[Value.pointer (some ⟨gd, 0, none⟩)] w3 fun e w' => e = .returned (Value.int .i64 (-1)) ∧ Kp w3 w' (fun _ => False) := by
        have h := rnext_any gd A c L now (fun p hp => by have := hrel.pos p hp; omega) w3 B_gd O_D hcA hll hnd
        unfold nextR at h
        rw [hq] at h
        exact h
      refine p_cons (s_call (xs := [Operand.tmp 27]) (args := [Value.pointer (some ⟨gd, 0, none⟩)]) p21_3_4 hE wn_none rfl rfl Try.func39 cl39 (hct) ?_)
      rintro e w4 ⟨rfl, hk⟩
      replace B_g := kp_blk B_g hk (fun h => h)
      replace B_gd := kp_blk B_gd hk (fun h => h)
      replace O_W := wm_keep O_W hk (fun _ _ h => h)
      replace O_D := Rv.rdv_keep O_D hk (fun _ _ h => h)
      replace K_0 := K_0.then_ hk (fun _ h => h.elim)
      refine ⟨_, rfl, ?_⟩
      clear hE a; intro a hE
      refine q0 p21_3_5 hE (st_assign rfl) ?_
      clear hE a; intro a hE
      refine q0 p21_3_6 hE (st_assign rfl) ?_
      clear hE a; intro a hE
      refine p_nil ?_
      refine x_norm ?_
      refine wp_seq ?_
      refine c_reg R21_4_l ?_
      refine q0 p21_4_0 hE (st_move rfl) ?_
      clear hE a; intro a hE
      refine q0 p21_4_1 hE (st_lss (b := false) rfl rfl (decide_eq_false (by omega))) ?_
      clear hE a; intro a hE
      refine q0 p21_4_2 hE (st_move rfl) ?_
      clear hE a; intro a hE
      refine p_cons (s_skip p21_4_3 hE (wn_some g21_4_2 rfl rfl) rfl ?_)
      clear hE a; intro a hE
      refine p_cons (s_skip p21_4_4 hE (wn_some g21_4_2 rfl rfl) rfl ?_)
      clear hE a; intro a hE
      refine q0 p21_4_5 hE (st_pick rfl rfl) ?_
      clear hE a; intro a hE
      refine q0 p21_4_6 hE (st_move rfl) ?_
      clear hE a; intro a hE
      refine p_cons (s_still p21_4_7 hE (wn_some g21_4_6 rfl rfl) rfl (st_move rfl) ?_)
      clear hE a; intro a hE
      refine p_cons (s_still p21_4_8 hE (wn_some g21_4_6 rfl rfl) rfl (st_geq (b := true) rfl rfl (decide_eq_true (by omega))) ?_)
      clear hE a; intro a hE
      refine p_cons (s_still p21_4_9 hE (wn_some g21_4_6 rfl rfl) rfl (st_move rfl) ?_)
      clear hE a; intro a hE
      refine p_cons (s_still p21_4_10 hE (wn_some g21_4_9 rfl rfl) rfl (st_move rfl) ?_)
      clear hE a; intro a hE
      refine p_cons (s_still p21_4_11 hE (wn_some g21_4_9 rfl rfl) rfl (st_neq (b := false) rfl rfl (by decide)) ?_)
      clear hE a; intro a hE
      refine p_cons (s_still p21_4_12 hE (wn_some g21_4_9 rfl rfl) rfl (st_move rfl) ?_)
      clear hE a; intro a hE
      refine p_cons (s_still p21_4_13 hE (wn_some g21_4_12 rfl rfl) rfl (st_move rfl) ?_)
      clear hE a; intro a hE
      refine p_cons (s_still p21_4_14 hE (wn_some g21_4_12 rfl rfl) rfl (st_move rfl) ?_)
      clear hE a; intro a hE
      refine p_cons (s_still p21_4_15 hE (wn_some g21_4_12 rfl rfl) rfl (st_neq (b := false) rfl rfl (by simp)) ?_)
      clear hE a; intro a hE
      refine p_cons (s_still p21_4_16 hE (wn_some g21_4_9 rfl rfl) rfl (st_pick rfl rfl) ?_)
      clear hE a; intro a hE
      refine p_cons (s_still p21_4_17 hE (wn_some g21_4_6 rfl rfl) rfl (st_pick rfl rfl) ?_)
      clear hE a; intro a hE
      refine q0 p21_4_18 hE (st_pick rfl rfl) ?_
      clear hE a; intro a hE
      refine p_nil ?_
      refine x_norm ?_
      refine c_cond (t := false) hE rfl ?_
      refine wp_skip ?_
      refine x_norm ?_
      refine wp_seq ?_
      refine c_reg R21_6_l ?_
      refine q0 p21_6_0 hE (st_move rfl) ?_
      clear hE a; intro a hE
      refine q0 p21_6_1 hE (st_lss (b := true) rfl rfl (by decide)) ?_
      clear hE a; intro a hE
      refine q0 p21_6_2 hE (st_move rfl) ?_
      clear hE a; intro a hE
      refine p_cons (s_still p21_6_3 hE (wn_some g21_6_2 rfl rfl) rfl (st_move rfl) ?_)
      clear hE a; intro a hE
      refine p_cons (s_still p21_6_4 hE (wn_some g21_6_2 rfl rfl) rfl (st_neq (b := false) rfl rfl (by decide)) ?_)
      clear hE a; intro a hE
      refine q0 p21_6_5 hE (st_pick rfl rfl) ?_
      clear hE a; intro a hE
      refine q0 p21_6_6 hE (st_move rfl) ?_
      clear hE a; intro a hE
      refine p_cons (s_still p21_6_7 hE (wn_some g21_6_6 rfl rfl) rfl (st_move rfl) ?_)
      clear hE a; intro a hE
      refine p_cons (s_still p21_6_8 hE (wn_some g21_6_6 rfl rfl) rfl (st_geq (b := false) rfl rfl (by decide)) ?_)
      clear hE a; intro a hE
      refine p_cons (s_still p21_6_9 hE (wn_some g21_6_6 rfl rfl) rfl (st_move rfl) ?_)
      clear hE a; intro a hE
      refine p_cons (s_skip p21_6_10 hE (wn_some g21_6_9 rfl rfl) rfl ?_)
      clear hE a; intro a hE
      refine p_cons (s_skip p21_6_11 hE (wn_some g21_6_9 rfl rfl) rfl ?_)
      clear hE a; intro a hE
      refine p_cons (s_skip p21_6_12 hE (wn_some g21_6_9 rfl rfl) rfl ?_)
      clear hE a; intro a hE
      refine p_cons (s_skip p21_6_13 hE (We.wn_undef g21_6_12 rfl) rfl ?_)
      clear hE a; intro a hE
      refine p_cons (s_skip p21_6_14 hE (We.wn_undef g21_6_12 rfl) rfl ?_)
      clear hE a; intro a hE
      refine p_cons (s_skip p21_6_15 hE (We.wn_undef g21_6_12 rfl) rfl ?_)
      clear hE a; intro a hE
      refine p_cons (s_skip p21_6_16 hE (wn_some g21_6_9 rfl rfl) rfl ?_)
      clear hE a; intro a hE
      refine p_cons (s_still p21_6_17 hE (wn_some g21_6_6 rfl rfl) rfl (st_pick rfl rfl) ?_)
      clear hE a; intro a hE
      refine q0 p21_6_18 hE (st_pick rfl rfl) ?_
      clear hE a; intro a hE
      refine p_nil ?_
      refine x_norm ?_
      refine c_cond (t := false) hE rfl ?_
      refine wp_skip ?_
      refine x_norm ?_
      refine c_drawS (S := fun W => W.heap[gd]? = some (.cells #[Value.int .i64 now, Value.slice A L.length c] 50 (0, 0)) ∧ True) rfl rfl (listed := #[false, false, false, false, false, false, false, false, false, false, false, false, false, false, false, false, false, false]) rfl ?_
      intro w5 hh hk
      replace B_g := kp_blk B_g hk (fun h => h)
      replace B_gd := kp_blk B_gd hk (fun h => h)
      replace O_W := wm_keep O_W hk (fun _ _ h => h)
      replace O_D := Rv.rdv_keep O_D hk (fun _ _ h => h)
      replace K_0 := K_0.then_ hk (fun _ h => h.elim)
      clear hh hk
      refine Rv.dq (v := Value.pointer (some ⟨g, 0, none⟩)) p21_8_0 ns21_8 hE wn_none ⟨B_gd, trivial⟩ (fun W hS => (st_move rfl)) ?_; clear hE a; intro a hE
      refine Rv.dq (v := Value.pointer (some ⟨gd, 0, none⟩)) p21_8_2 ns21_8 hE wn_none ⟨B_gd, trivial⟩ (fun W hS => (st_move rfl)) ?_; clear hE a; intro a hE
      refine Rv.dq (v := Value.pointer (some ⟨gd, 0, none⟩)) p21_8_3 ns21_8 hE wn_none ⟨B_gd, trivial⟩ (fun W hS => (st_nil rfl)) ?_; clear hE a; intro a hE
      refine Rv.dq (v := Value.pointer (some ⟨gd, 0, none⟩)) p21_8_4 ns21_8 hE wn_none ⟨B_gd, trivial⟩ (fun W hS => (st_fieldAddr Try.underlying50 rfl tS3 rfl rfl)) ?_; clear hE a; intro a hE
      refine Rv.dq (v := Value.int .i64 now) p21_8_5 ns21_8 hE wn_none ⟨B_gd, trivial⟩ (fun W hS => (st_load1 tA3 rfl ((blk_cell hS.1 0).trans rfl))) ?_; clear hE a; intro a hE
      refine d_one (by kernel_rfl) rfl (s_call (xs := [Operand.tmp 67]) (args := [Value.pointer (some ⟨g, 0, none⟩)]) p21_8_1 hE wn_none rfl rfl Try.func17 cl17 (now_any g now (Value.map mb) _ B_g) ?_)
      rintro e w6 ⟨rfl, hk⟩
      replace B_g := kp_blk B_g hk (fun h => h)
      replace B_gd := kp_blk B_gd hk (fun h => h)
      replace O_W := wm_keep O_W hk (fun _ _ h => h)
      replace O_D := Rv.rdv_keep O_D hk (fun _ _ h => h)
      replace K_0 := K_0.then_ hk (fun _ h => h.elim)
      refine ⟨_, rfl, ?_⟩
      clear hE a; intro a hE
      refine ⟨⟨B_gd, trivial⟩, ?_⟩
      refine Rv.dq (v := Value.bool true) p21_8_6 ns21_8 hE wn_none ⟨B_gd, trivial⟩ (fun W hS => (st_eql (b := true) rfl rfl (by simp))) ?_; clear hE a; intro a hE
      refine Rv.dq (v := Value.bool true) p21_8_7 ns21_8 hE wn_none ⟨B_gd, trivial⟩ (fun W hS => (st_move rfl)) ?_; clear hE a; intro a hE
      refine Rv.dq (v := Value.pointer (some ⟨g, 0, none⟩)) p21_8_8 ns21_8 hE (wn_some g21_8_7 rfl rfl) ⟨B_gd, trivial⟩ (fun W hS => (st_move rfl)) ?_; clear hE a; intro a hE
      refine Rv.dq (v := Value.pointer (some ⟨gd, 0, none⟩)) p21_8_10 ns21_8 hE (wn_some g21_8_7 rfl rfl) ⟨B_gd, trivial⟩ (fun W hS => (st_move rfl)) ?_; clear hE a; intro a hE
      refine Rv.dq (v := Value.pointer (some ⟨gd, 0, none⟩)) p21_8_11 ns21_8 hE (wn_some g21_8_7 rfl rfl) ⟨B_gd, trivial⟩ (fun W hS => (st_nil rfl)) ?_; clear hE a; intro a hE
      refine Rv.dq (v := Value.pointer (some ⟨gd, 1, none⟩)) p21_8_12 ns21_8 hE (wn_some g21_8_7 rfl rfl) ⟨B_gd, trivial⟩ (fun W hS => (st_fieldAddr Try.underlying50 rfl tS48 rfl rfl)) ?_; clear hE a; intro a hE
      refine Rv.dq (v := Value.slice A L.length c) p21_8_13 ns21_8 hE (wn_some g21_8_7 rfl rfl) ⟨B_gd, trivial⟩ (fun W hS => (st_load1 tA48 rfl ((blk_cell hS.1 1).trans rfl))) ?_; clear hE a; intro a hE
      refine Rv.dq (v := Value.int .i64 (L.length : Int)) p21_8_14 ns21_8 hE (wn_some g21_8_7 rfl rfl) ⟨B_gd, trivial⟩ (fun W hS => (st_len Try.underlying48 rfl)) ?_; clear hE a; intro a hE
      have hct : Calls Try.prog 16 #[Value.pointer (some ⟨g, 0, none⟩)] w6 fun e w' => e = .returned (Value.int .i64 (l.length : Int)) ∧ Kp w6 w' (fun _ => False) := by
        exact len_u g now mb l w6 B_g O_W hne
      refine d_one (by kernel_rfl) rfl (s_call (xs := [Operand.tmp 75]) (args := [Value.pointer (some ⟨g, 0, none⟩)]) p21_8_9 hE (wn_some g21_8_7 rfl rfl) rfl rfl Try.func16 cl16 (hct) ?_)
      rintro e w7 ⟨rfl, hk⟩
      replace B_g := kp_blk B_g hk (fun h => h)
      replace B_gd := kp_blk B_gd hk (fun h => h)
      replace O_W := wm_keep O_W hk (fun _ _ h => h)
      replace O_D := Rv.rdv_keep O_D hk (fun _ _ h => h)
      replace K_0 := K_0.then_ hk (fun _ h => h.elim)
      refine ⟨_, rfl, ?_⟩
      clear hE a; intro a hE
      refine ⟨⟨B_gd, trivial⟩, ?_⟩
      refine Rv.dq (v := Value.bool true) p21_8_15 ns21_8 hE (wn_some g21_8_7 rfl rfl) ⟨B_gd, trivial⟩ (fun W hS => (st_eql (b := true) rfl rfl (decide_eq_true (by omega)))) ?_; clear hE a; intro a hE
      refine Rv.dq (v := Value.bool true) p21_8_16 ns21_8 hE wn_none ⟨B_gd, trivial⟩ (fun W hS => (st_pick rfl rfl)) ?_; clear hE a; intro a hE
      refine Rv.dq (v := Value.bool true) p21_8_17 ns21_8 hE wn_none ⟨B_gd, trivial⟩ (fun W hS => (st_assign rfl)) ?_; clear hE a; intro a hE
      refine d_end (by kernel_rfl) ?_
      refine x_norm ?_
      refine wp_ret ?_
      refine ret_one (v := Value.bool true) rfl hE (.tmp rfl .nil) ?_
      exact ⟨rfl, K_0⟩
    ·
      obtain ⟨q, hq⟩ := Option.ne_none_iff_exists'.1 hFN
      have hqp : 1 ≤ q.2 := hrel.pos _ (firstI_spec hq).1
      have hql := hrel.first.trans hq
      refine c_reg R21_1_l ?_
      refine q0 p21_1_0 hE (st_move rfl) ?_
      clear hE a; intro a hE
      refine q0 p21_1_1 hE (st_move rfl) ?_
      clear hE a; intro a hE
      have hct : Calls Try.prog 37 #[Value.pointer (some ⟨g, 0, none⟩), Value.int .i64 x] w fun e w' => e = .returned (Value.tuple #[Value.int .i64 v, Value.int .i64 0]) ∧ Kp w w' (fun _ => False) := by
        have h := due_u g now mb l x w B_g O_W hne
        unfold dueP at h
        rw [hvl] at h
        exact h
      refine p_cons (s_call (xs := [Operand.tmp 14, Operand.tmp 15]) (args := [Value.pointer (some ⟨g, 0, none⟩), Value.int .i64 x]) p21_1_2 hE wn_none rfl rfl Try.func37 cl37 (hct) ?_)
      rintro e w8 ⟨rfl, hk⟩
      replace B_g := kp_blk B_g hk (fun h => h)
      replace B_gd := kp_blk B_gd hk (fun h => h)
      replace O_W := wm_keep O_W hk (fun _ _ h => h)
      replace O_D := Rv.rdv_keep O_D hk (fun _ _ h => h)
      replace K_0 := K_0.then_ hk (fun _ h => h.elim)
      refine ⟨_, rfl, ?_⟩
      clear hE a; intro a hE
      refine q0 p21_1_3 hE (st_move rfl) ?_
      clear hE a; intro a hE
      refine q0 p21_1_4 hE (st_extract rfl rfl) ?_
      clear hE a; intro a hE
      refine q0 p21_1_5 hE (st_extract rfl rfl) ?_
      clear hE a; intro a hE
      refine q0 p21_1_6 hE (st_assign rfl) ?_
      clear hE a; intro a hE
      refine q0 p21_1_7 hE (st_assign rfl) ?_
      clear hE a; intro a hE
      refine p_nil ?_
      refine x_norm ?_
      refine c_reg R21_2_l ?_
      refine q0 p21_2_0 hE (st_move rfl) ?_
      clear hE a; intro a hE
      have hct : Calls Try.prog 14 #[Value.pointer (some ⟨g, 0, none⟩)] w8 fun e w' => e = .returned (Value.tuple #[Value.int .i64 q.2, Value.int .i64 0]) ∧ Kp w8 w' (fun _ => False) := by
        have h := next_u g now mb l w8 (by omega) B_g O_W hne
        unfold nextP at h
        rw [hql] at h
        exact h
      refine p_cons (s_call (xs := [Operand.tmp 20]) (args := [Value.pointer (some ⟨g, 0, none⟩)]) p21_2_1 hE wn_none rfl rfl Try.func14 cl14 (hct) ?_)
      rintro e w9 ⟨rfl, hk⟩
      replace B_g := kp_blk B_g hk (fun h => h)
      replace B_gd := kp_blk B_gd hk (fun h => h)
      replace O_W := wm_keep O_W hk (fun _ _ h => h)
      replace O_D := Rv.rdv_keep O_D hk (fun _ _ h => h)
      replace K_0 := K_0.then_ hk (fun _ h => h.elim)
      refine ⟨_, rfl, ?_⟩
      clear hE a; intro a hE
      refine q0 p21_2_2 hE (st_move rfl) ?_
      clear hE a; intro a hE
      refine q0 p21_2_3 hE (st_extract rfl rfl) ?_
      clear hE a; intro a hE
      refine q0 p21_2_4 hE (st_extract rfl rfl) ?_
      clear hE a; intro a hE
      refine q0 p21_2_5 hE (st_assign rfl) ?_
      clear hE a; intro a hE
      refine q0 p21_2_6 hE (st_assign rfl) ?_
      clear hE a; intro a hE
      refine p_nil ?_
      refine x_norm ?_
      refine c_reg R21_3_l ?_
      refine q0 p21_3_0 hE (st_move rfl) ?_
      clear hE a; intro a hE
      refine q0 p21_3_1 hE (st_move rfl) ?_
      clear hE a; intro a hE
      have hct : Calls Try.prog 38 #[Value.pointer (some ⟨gd, 0, none⟩), Value.int .i64 x] w9 fun e w' => e = .returned (Value.int .i64 v) ∧ Kp w9 w' (fun _ => False) := by
        have h := rdue_any gd A c L now x w9 B_gd O_D hcA hll hnd
        rw [hv] at h
        exact h
      refine p_cons (s_call (xs := [Operand.tmp 24, Operand.tmp 25]) (args := [Value.pointer (some ⟨gd, 0, none⟩), Value.int .i64 x]) p21_3_2 hE wn_none rfl rfl Try.func38 cl38 (hct) ?_)
      rintro e w10 ⟨rfl, hk⟩
      replace B_g := kp_blk B_g hk (fun h => h)
      replace B_gd := kp_blk B_gd hk (fun h => h)
      replace O_W := wm_keep O_W hk (fun _ _ h => h)
      replace O_D := Rv.rdv_keep O_D hk (fun _ _ h => h)
      replace K_0 := K_0.then_ hk (fun _ h => h.elim)
      refine ⟨_, rfl, ?_⟩
      clear hE a; intro a hE
      refine q0 p21_3_3 hE (st_move rfl) ?_
      clear hE a; intro a hE
      have hct : Calls Try.prog 39 #[Value.pointer (some ⟨gd, 0, none⟩)] w10 fun e w' => e = .returned (Value.int .i64 q.2) ∧ Kp w10 w' (fun _ => False) := by
        have h := rnext_any gd A c L now (fun p hp => by have := hrel.pos p hp; omega) w10 B_gd O_D hcA hll hnd
        unfold nextR at h
        rw [hq] at h
        exact h
      refine p_cons (s_call (xs := [Operand.tmp 27]) (args := [Value.pointer (some ⟨gd, 0, none⟩)]) p21_3_4 hE wn_none rfl rfl Try.func39 cl39 (hct) ?_)
      rintro e w11 ⟨rfl, hk⟩
      replace B_g := kp_blk B_g hk (fun h => h)
      replace B_gd := kp_blk B_gd hk (fun h => h)
      replace O_W := wm_keep O_W hk (fun _ _ h => h)
      replace O_D := Rv.rdv_keep O_D hk (fun _ _ h => h)
      replace K_0 := K_0.then_ hk (fun _ h => h.elim)
      refine ⟨_, rfl, ?_⟩
      clear hE a; intro a hE
      refine q0 p21_3_5 hE (st_assign rfl) ?_
      clear hE a; intro a hE
      refine q0 p21_3_6 hE (st_assign rfl) ?_
      clear hE a; intro a hE
      refine p_nil ?_
      refine x_norm ?_
      refine wp_seq ?_
      refine c_reg R21_4_l ?_
      refine q0 p21_4_0 hE (st_move rfl) ?_
      clear hE a; intro a hE
      refine q0 p21_4_1 hE (st_lss (b := false) rfl rfl (decide_eq_false (by omega))) ?_
      clear hE a; intro a hE
      refine q0 p21_4_2 hE (st_move rfl) ?_
      clear hE a; intro a hE
      refine p_cons (s_skip p21_4_3 hE (wn_some g21_4_2 rfl rfl) rfl ?_)
      clear hE a; intro a hE
      refine p_cons (s_skip p21_4_4 hE (wn_some g21_4_2 rfl rfl) rfl ?_)
      clear hE a; intro a hE
      refine q0 p21_4_5 hE (st_pick rfl rfl) ?_
      clear hE a; intro a hE
      refine q0 p21_4_6 hE (st_move rfl) ?_
      clear hE a; intro a hE
      refine p_cons (s_still p21_4_7 hE (wn_some g21_4_6 rfl rfl) rfl (st_move rfl) ?_)
      clear hE a; intro a hE
      refine p_cons (s_still p21_4_8 hE (wn_some g21_4_6 rfl rfl) rfl (st_geq (b := true) rfl rfl (decide_eq_true (by omega))) ?_)
      clear hE a; intro a hE
      refine p_cons (s_still p21_4_9 hE (wn_some g21_4_6 rfl rfl) rfl (st_move rfl) ?_)
      clear hE a; intro a hE
      refine p_cons (s_still p21_4_10 hE (wn_some g21_4_9 rfl rfl) rfl (st_move rfl) ?_)
      clear hE a; intro a hE
      refine p_cons (s_still p21_4_11 hE (wn_some g21_4_9 rfl rfl) rfl (st_neq (b := false) rfl rfl (by decide)) ?_)
      clear hE a; intro a hE
      refine p_cons (s_still p21_4_12 hE (wn_some g21_4_9 rfl rfl) rfl (st_move rfl) ?_)
      clear hE a; intro a hE
      refine p_cons (s_still p21_4_13 hE (wn_some g21_4_12 rfl rfl) rfl (st_move rfl) ?_)
      clear hE a; intro a hE
      refine p_cons (s_still p21_4_14 hE (wn_some g21_4_12 rfl rfl) rfl (st_move rfl) ?_)
      clear hE a; intro a hE
      refine p_cons (s_still p21_4_15 hE (wn_some g21_4_12 rfl rfl) rfl (st_neq (b := false) rfl rfl (by simp)) ?_)
      clear hE a; intro a hE
      refine p_cons (s_still p21_4_16 hE (wn_some g21_4_9 rfl rfl) rfl (st_pick rfl rfl) ?_)
      clear hE a; intro a hE
      refine p_cons (s_still p21_4_17 hE (wn_some g21_4_6 rfl rfl) rfl (st_pick rfl rfl) ?_)
      clear hE a; intro a hE
      refine q0 p21_4_18 hE (st_pick rfl rfl) ?_
      clear hE a; intro a hE
      refine p_nil ?_
      refine x_norm ?_
      refine c_cond (t := false) hE rfl ?_
      refine wp_skip ?_
      refine x_norm ?_
      refine wp_seq ?_
      refine c_reg R21_6_l ?_
      refine q0 p21_6_0 hE (st_move rfl) ?_
      clear hE a; intro a hE
      refine q0 p21_6_1 hE (st_lss (b := false) rfl rfl (decide_eq_false (by omega))) ?_
      clear hE a; intro a hE
      refine q0 p21_6_2 hE (st_move rfl) ?_
      clear hE a; intro a hE
      refine p_cons (s_skip p21_6_3 hE (wn_some g21_6_2 rfl rfl) rfl ?_)
      clear hE a; intro a hE
      refine p_cons (s_skip p21_6_4 hE (wn_some g21_6_2 rfl rfl) rfl ?_)
      clear hE a; intro a hE
      refine q0 p21_6_5 hE (st_pick rfl rfl) ?_
      clear hE a; intro a hE
      refine q0 p21_6_6 hE (st_move rfl) ?_
      clear hE a; intro a hE
      refine p_cons (s_still p21_6_7 hE (wn_some g21_6_6 rfl rfl) rfl (st_move rfl) ?_)
      clear hE a; intro a hE
      refine p_cons (s_still p21_6_8 hE (wn_some g21_6_6 rfl rfl) rfl (st_geq (b := true) rfl rfl (decide_eq_true (by omega))) ?_)
      clear hE a; intro a hE
      refine p_cons (s_still p21_6_9 hE (wn_some g21_6_6 rfl rfl) rfl (st_move rfl) ?_)
      clear hE a; intro a hE
      refine p_cons (s_still p21_6_10 hE (wn_some g21_6_9 rfl rfl) rfl (st_move rfl) ?_)
      clear hE a; intro a hE
      refine p_cons (s_still p21_6_11 hE (wn_some g21_6_9 rfl rfl) rfl (st_neq (b := false) rfl rfl (by decide)) ?_)
      clear hE a; intro a hE
      refine p_cons (s_still p21_6_12 hE (wn_some g21_6_9 rfl rfl) rfl (st_move rfl) ?_)
      clear hE a; intro a hE
      refine p_cons (s_still p21_6_13 hE (wn_some g21_6_12 rfl rfl) rfl (st_move rfl) ?_)
      clear hE a; intro a hE
      refine p_cons (s_still p21_6_14 hE (wn_some g21_6_12 rfl rfl) rfl (st_move rfl) ?_)
      clear hE a; intro a hE
      refine p_cons (s_still p21_6_15 hE (wn_some g21_6_12 rfl rfl) rfl (st_neq (b := false) rfl rfl (by simp)) ?_)
      clear hE a; intro a hE
      refine p_cons (s_still p21_6_16 hE (wn_some g21_6_9 rfl rfl) rfl (st_pick rfl rfl) ?_)
      clear hE a; intro a hE
      refine p_cons (s_still p21_6_17 hE (wn_some g21_6_6 rfl rfl) rfl (st_pick rfl rfl) ?_)
      clear hE a; intro a hE
      refine q0 p21_6_18 hE (st_pick rfl rfl) ?_
      clear hE a; intro a hE
      refine p_nil ?_
      refine x_norm ?_
      refine c_cond (t := false) hE rfl ?_
      refine wp_skip ?_
      refine x_norm ?_
      refine c_drawS (S := fun W => W.heap[gd]? = some (.cells #[Value.int .i64 now, Value.slice A L.length c] 50 (0, 0)) ∧ True) rfl rfl (listed := #[false, false, false, false, false, false, false, false, false, false, false, false, false, false, false, false, false, false]) rfl ?_
      intro w12 hh hk
      replace B_g := kp_blk B_g hk (fun h => h)
      replace B_gd := kp_blk B_gd hk (fun h => h)
      replace O_W := wm_keep O_W hk (fun _ _ h => h)
      replace O_D := Rv.rdv_keep O_D hk (fun _ _ h => h)
      replace K_0 := K_0.then_ hk (fun _ h => h.elim)
      clear hh hk
      refine Rv.dq (v := Value.pointer (some ⟨g, 0, none⟩)) p21_8_0 ns21_8 hE wn_none ⟨B_gd, trivial⟩ (fun W hS => (st_move rfl)) ?_; clear hE a; intro a hE
      refine Rv.dq (v := Value.pointer (some ⟨gd, 0, none⟩)) p21_8_2 ns21_8 hE wn_none ⟨B_gd, trivial⟩ (fun W hS => (st_move rfl)) ?_; clear hE a; intro a hE
      refine Rv.dq (v := Value.pointer (some ⟨gd, 0, none⟩)) p21_8_3 ns21_8 hE wn_none ⟨B_gd, trivial⟩ (fun W hS => (st_nil rfl)) ?_; clear hE a; intro a hE
      refine Rv.dq (v := Value.pointer (some ⟨gd, 0, none⟩)) p21_8_4 ns21_8 hE wn_none ⟨B_gd, trivial⟩ (fun W hS => (st_fieldAddr Try.underlying50 rfl tS3 rfl rfl)) ?_; clear hE a; intro a hE
      refine Rv.dq (v := Value.int .i64 now) p21_8_5 ns21_8 hE wn_none ⟨B_gd, trivial⟩ (fun W hS => (st_load1 tA3 rfl ((blk_cell hS.1 0).trans rfl))) ?_; clear hE a; intro a hE
      refine d_one (by kernel_rfl) rfl (s_call (xs := [Operand.tmp 67]) (args := [Value.pointer (some ⟨g, 0, none⟩)]) p21_8_1 hE wn_none rfl rfl Try.func17 cl17 (now_any g now (Value.map mb) _ B_g) ?_)
      rintro e w13 ⟨rfl, hk⟩
      replace B_g := kp_blk B_g hk (fun h => h)
      replace B_gd := kp_blk B_gd hk (fun h => h)
      replace O_W := wm_keep O_W hk (fun _ _ h => h)
      replace O_D := Rv.rdv_keep O_D hk (fun _ _ h => h)
      replace K_0 := K_0.then_ hk (fun _ h => h.elim)
      refine ⟨_, rfl, ?_⟩
      clear hE a; intro a hE
      refine ⟨⟨B_gd, trivial⟩, ?_⟩
      refine Rv.dq (v := Value.bool true) p21_8_6 ns21_8 hE wn_none ⟨B_gd, trivial⟩ (fun W hS => (st_eql (b := true) rfl rfl (by simp))) ?_; clear hE a; intro a hE
      refine Rv.dq (v := Value.bool true) p21_8_7 ns21_8 hE wn_none ⟨B_gd, trivial⟩ (fun W hS => (st_move rfl)) ?_; clear hE a; intro a hE
      refine Rv.dq (v := Value.pointer (some ⟨g, 0, none⟩)) p21_8_8 ns21_8 hE (wn_some g21_8_7 rfl rfl) ⟨B_gd, trivial⟩ (fun W hS => (st_move rfl)) ?_; clear hE a; intro a hE
      refine Rv.dq (v := Value.pointer (some ⟨gd, 0, none⟩)) p21_8_10 ns21_8 hE (wn_some g21_8_7 rfl rfl) ⟨B_gd, trivial⟩ (fun W hS => (st_move rfl)) ?_; clear hE a; intro a hE
      refine Rv.dq (v := Value.pointer (some ⟨gd, 0, none⟩)) p21_8_11 ns21_8 hE (wn_some g21_8_7 rfl rfl) ⟨B_gd, trivial⟩ (fun W hS => (st_nil rfl)) ?_; clear hE a; intro a hE
      refine Rv.dq (v := Value.pointer (some ⟨gd, 1, none⟩)) p21_8_12 ns21_8 hE (wn_some g21_8_7 rfl rfl) ⟨B_gd, trivial⟩ (fun W hS => (st_fieldAddr Try.underlying50 rfl tS48 rfl rfl)) ?_; clear hE a; intro a hE
      refine Rv.dq (v := Value.slice A L.length c) p21_8_13 ns21_8 hE (wn_some g21_8_7 rfl rfl) ⟨B_gd, trivial⟩ (fun W hS => (st_load1 tA48 rfl ((blk_cell hS.1 1).trans rfl))) ?_; clear hE a; intro a hE
      refine Rv.dq (v := Value.int .i64 (L.length : Int)) p21_8_14 ns21_8 hE (wn_some g21_8_7 rfl rfl) ⟨B_gd, trivial⟩ (fun W hS => (st_len Try.underlying48 rfl)) ?_; clear hE a; intro a hE
      have hct : Calls Try.prog 16 #[Value.pointer (some ⟨g, 0, none⟩)] w13 fun e w' => e = .returned (Value.int .i64 (l.length : Int)) ∧ Kp w13 w' (fun _ => False) := by
        exact len_u g now mb l w13 B_g O_W hne
      refine d_one (by kernel_rfl) rfl (s_call (xs := [Operand.tmp 75]) (args := [Value.pointer (some ⟨g, 0, none⟩)]) p21_8_9 hE (wn_some g21_8_7 rfl rfl) rfl rfl Try.func16 cl16 (hct) ?_)
      rintro e w14 ⟨rfl, hk⟩
      replace B_g := kp_blk B_g hk (fun h => h)
      replace B_gd := kp_blk B_gd hk (fun h => h)
      replace O_W := wm_keep O_W hk (fun _ _ h => h)
      replace O_D := Rv.rdv_keep O_D hk (fun _ _ h => h)
      replace K_0 := K_0.then_ hk (fun _ h => h.elim)
      refine ⟨_, rfl, ?_⟩
      clear hE a; intro a hE
      refine ⟨⟨B_gd, trivial⟩, ?_⟩
      refine Rv.dq (v := Value.bool true) p21_8_15 ns21_8 hE (wn_some g21_8_7 rfl rfl) ⟨B_gd, trivial⟩ (fun W hS => (st_eql (b := true) rfl rfl (decide_eq_true (by omega)))) ?_; clear hE a; intro a hE
      refine Rv.dq (v := Value.bool true) p21_8_16 ns21_8 hE wn_none ⟨B_gd, trivial⟩ (fun W hS => (st_pick rfl rfl)) ?_; clear hE a; intro a hE
      refine Rv.dq (v := Value.bool true) p21_8_17 ns21_8 hE wn_none ⟨B_gd, trivial⟩ (fun W hS => (st_assign rfl)) ?_; clear hE a; intro a hE
      refine d_end (by kernel_rfl) ?_
      refine x_norm ?_
      refine wp_ret ?_
      refine ret_one (v := Value.bool true) rfl hE (.tmp rfl .nil) ?_
      exact ⟨rfl, K_0⟩
  ·
    have hv := Option.not_isSome_iff_eq_none.1 hHAS
    have hvl := (get_permA hrel.perm hrel.ndl x).trans hv
    rcases Decidable.em (firstI L = none) with hFN | hFN
    ·
      have hq := hFN
      have hql := hrel.first.trans hq
      refine c_reg R21_1_l ?_
      refine q0 p21_1_0 hE (st_move rfl) ?_
      clear hE a; intro a hE
      refine q0 p21_1_1 hE (st_move rfl) ?_
      clear hE a; intro a hE
      have hct : Calls Try.prog 37 #[Value.pointer (some ⟨g, 0, none⟩), Value.int .i64 x] w fun e w' => e = .returned (Value.tuple #[Value.int .i64 0, Value.int .i64 8]) ∧ Kp w w' (fun _ => False) := by
        have h := due_u g now mb l x w B_g O_W hne
        unfold dueP at h
        rw [hvl] at h
        exact h
      refine p_cons (s_call (xs := [Operand.tmp 14, Operand.tmp 15]) (args := [Value.pointer (some ⟨g, 0, none⟩), Value.int .i64 x]) p21_1_2 hE wn_none rfl rfl Try.func37 cl37 (hct) ?_)
      rintro e w15 ⟨rfl, hk⟩
      replace B_g := kp_blk B_g hk (fun h => h)
      replace B_gd := kp_blk B_gd hk (fun h => h)
      replace O_W := wm_keep O_W hk (fun _ _ h => h)
      replace O_D := Rv.rdv_keep O_D hk (fun _ _ h => h)
      replace K_0 := K_0.then_ hk (fun _ h => h.elim)
      refine ⟨_, rfl, ?_⟩
      clear hE a; intro a hE
      refine q0 p21_1_3 hE (st_move rfl) ?_
      clear hE a; intro a hE
      refine q0 p21_1_4 hE (st_extract rfl rfl) ?_
      clear hE a; intro a hE
      refine q0 p21_1_5 hE (st_extract rfl rfl) ?_
      clear hE a; intro a hE
      refine q0 p21_1_6 hE (st_assign rfl) ?_
      clear hE a; intro a hE
      refine q0 p21_1_7 hE (st_assign rfl) ?_
      clear hE a; intro a hE
      refine p_nil ?_
      refine x_norm ?_
      refine c_reg R21_2_l ?_
      refine q0 p21_2_0 hE (st_move rfl) ?_
      clear hE a; intro a hE
      have hct : Calls Try.prog 14 #[Value.pointer (some ⟨g, 0, none⟩)] w15 fun e w' => e = .returned (Value.tuple #[Value.int .i64 0, Value.int .i64 8]) ∧ Kp w15 w' (fun _ => False) := by
        have h := next_u g now mb l w15 (by omega) B_g O_W hne
        unfold nextP at h
        rw [hql] at h
        exact h
      refine p_cons (s_call (xs := [Operand.tmp 20]) (args := [Value.pointer (some ⟨g, 0, none⟩)]) p21_2_1 hE wn_none rfl rfl Try.func14 cl14 (hct) ?_)
      rintro e w16 ⟨rfl, hk⟩
      replace B_g := kp_blk B_g hk (fun h => h)
      replace B_gd := kp_blk B_gd hk (fun h => h)
      replace O_W := wm_keep O_W hk (fun _ _ h => h)
      replace O_D := Rv.rdv_keep O_D hk (fun _ _ h => h)
      replace K_0 := K_0.then_ hk (fun _ h => h.elim)
      refine ⟨_, rfl, ?_⟩
      clear hE a; intro a hE
      refine q0 p21_2_2 hE (st_move rfl) ?_
      clear hE a; intro a hE
      refine q0 p21_2_3 hE (st_extract rfl rfl) ?_
      clear hE a; intro a hE
      refine q0 p21_2_4 hE (st_extract rfl rfl) ?_
      clear hE a; intro a hE
      refine q0 p21_2_5 hE (st_assign rfl) ?_
      clear hE a; intro a hE
      refine q0 p21_2_6 hE (st_assign rfl) ?_
      clear hE a; intro a hE
      refine p_nil ?_
      refine x_norm ?_
      refine c_reg R21_3_l ?_
      refine q0 p21_3_0 hE (st_move rfl) ?_
      clear hE a; intro a hE
      refine q0 p21_3_1 hE (st_move rfl) ?_
      clear hE a; intro a hE
      have hct : Calls Try.prog 38 #[Value.pointer (some ⟨gd, 0, none⟩), Value.int .i64 x] w16 fun e w' => e = .returned (Value.int .i64 (-1)) ∧ Kp w16 w' (fun _ => False) := by
        have h := rdue_any gd A c L now x w16 B_gd O_D hcA hll hnd
        rw [hv] at h
        exact h
      refine p_cons (s_call (xs := [Operand.tmp 24, Operand.tmp 25]) (args := [Value.pointer (some ⟨gd, 0, none⟩), Value.int .i64 x]) p21_3_2 hE wn_none rfl rfl Try.func38 cl38 (hct) ?_)
      rintro e w17 ⟨rfl, hk⟩
      replace B_g := kp_blk B_g hk (fun h => h)
      replace B_gd := kp_blk B_gd hk (fun h => h)
      replace O_W := wm_keep O_W hk (fun _ _ h => h)
      replace O_D := Rv.rdv_keep O_D hk (fun _ _ h => h)
      replace K_0 := K_0.then_ hk (fun _ h => h.elim)
      refine ⟨_, rfl, ?_⟩
      clear hE a; intro a hE
      refine q0 p21_3_3 hE (st_move rfl) ?_
      clear hE a; intro a hE
      have hct : Calls Try.prog 39 #[Value.pointer (some ⟨gd, 0, none⟩)] w17 fun e w' => e = .returned (Value.int .i64 (-1)) ∧ Kp w17 w' (fun _ => False) := by
        have h := rnext_any gd A c L now (fun p hp => by have := hrel.pos p hp; omega) w17 B_gd O_D hcA hll hnd
        unfold nextR at h
        rw [hq] at h
        exact h
      refine p_cons (s_call (xs := [Operand.tmp 27]) (args := [Value.pointer (some ⟨gd, 0, none⟩)]) p21_3_4 hE wn_none rfl rfl Try.func39 cl39 (hct) ?_)
      rintro e w18 ⟨rfl, hk⟩
      replace B_g := kp_blk B_g hk (fun h => h)
      replace B_gd := kp_blk B_gd hk (fun h => h)
      replace O_W := wm_keep O_W hk (fun _ _ h => h)
      replace O_D := Rv.rdv_keep O_D hk (fun _ _ h => h)
      replace K_0 := K_0.then_ hk (fun _ h => h.elim)
      refine ⟨_, rfl, ?_⟩
      clear hE a; intro a hE
      refine q0 p21_3_5 hE (st_assign rfl) ?_
      clear hE a; intro a hE
      refine q0 p21_3_6 hE (st_assign rfl) ?_
      clear hE a; intro a hE
      refine p_nil ?_
      refine x_norm ?_
      refine wp_seq ?_
      refine c_reg R21_4_l ?_
      refine q0 p21_4_0 hE (st_move rfl) ?_
      clear hE a; intro a hE
      refine q0 p21_4_1 hE (st_lss (b := true) rfl rfl (by decide)) ?_
      clear hE a; intro a hE
      refine q0 p21_4_2 hE (st_move rfl) ?_
      clear hE a; intro a hE
      refine p_cons (s_still p21_4_3 hE (wn_some g21_4_2 rfl rfl) rfl (st_move rfl) ?_)
      clear hE a; intro a hE
      refine p_cons (s_still p21_4_4 hE (wn_some g21_4_2 rfl rfl) rfl (st_neq (b := false) rfl rfl (by decide)) ?_)
      clear hE a; intro a hE
      refine q0 p21_4_5 hE (st_pick rfl rfl) ?_
      clear hE a; intro a hE
      refine q0 p21_4_6 hE (st_move rfl) ?_
      clear hE a; intro a hE
      refine p_cons (s_still p21_4_7 hE (wn_some g21_4_6 rfl rfl) rfl (st_move rfl) ?_)
      clear hE a; intro a hE
      refine p_cons (s_still p21_4_8 hE (wn_some g21_4_6 rfl rfl) rfl (st_geq (b := false) rfl rfl (by decide)) ?_)
      clear hE a; intro a hE
      refine p_cons (s_still p21_4_9 hE (wn_some g21_4_6 rfl rfl) rfl (st_move rfl) ?_)
      clear hE a; intro a hE
      refine p_cons (s_skip p21_4_10 hE (wn_some g21_4_9 rfl rfl) rfl ?_)
      clear hE a; intro a hE
      refine p_cons (s_skip p21_4_11 hE (wn_some g21_4_9 rfl rfl) rfl ?_)
      clear hE a; intro a hE
      refine p_cons (s_skip p21_4_12 hE (wn_some g21_4_9 rfl rfl) rfl ?_)
      clear hE a; intro a hE
      refine p_cons (s_skip p21_4_13 hE (We.wn_undef g21_4_12 rfl) rfl ?_)
      clear hE a; intro a hE
      refine p_cons (s_skip p21_4_14 hE (We.wn_undef g21_4_12 rfl) rfl ?_)
      clear hE a; intro a hE
      refine p_cons (s_skip p21_4_15 hE (We.wn_undef g21_4_12 rfl) rfl ?_)
      clear hE a; intro a hE
      refine p_cons (s_skip p21_4_16 hE (wn_some g21_4_9 rfl rfl) rfl ?_)
      clear hE a; intro a hE
      refine p_cons (s_still p21_4_17 hE (wn_some g21_4_6 rfl rfl) rfl (st_pick rfl rfl) ?_)
      clear hE a; intro a hE
      refine q0 p21_4_18 hE (st_pick rfl rfl) ?_
      clear hE a; intro a hE
      refine p_nil ?_
      refine x_norm ?_
      refine c_cond (t := false) hE rfl ?_
      refine wp_skip ?_
      refine x_norm ?_
      refine wp_seq ?_
      refine c_reg R21_6_l ?_
      refine q0 p21_6_0 hE (st_move rfl) ?_
      clear hE a; intro a hE
      refine q0 p21_6_1 hE (st_lss (b := true) rfl rfl (by decide)) ?_
      clear hE a; intro a hE
      refine q0 p21_6_2 hE (st_move rfl) ?_
      clear hE a; intro a hE
      refine p_cons (s_still p21_6_3 hE (wn_some g21_6_2 rfl rfl) rfl (st_move rfl) ?_)
      clear hE a; intro a hE
      refine p_cons (s_still p21_6_4 hE (wn_some g21_6_2 rfl rfl) rfl (st_neq (b := false) rfl rfl (by decide)) ?_)
      clear hE a; intro a hE
      refine q0 p21_6_5 hE (st_pick rfl rfl) ?_
      clear hE a; intro a hE
      refine q0 p21_6_6 hE (st_move rfl) ?_
      clear hE a; intro a hE
      refine p_cons (s_still p21_6_7 hE (wn_some g21_6_6 rfl rfl) rfl (st_move rfl) ?_)
      clear hE a; intro a hE
      refine p_cons (s_still p21_6_8 hE (wn_some g21_6_6 rfl rfl) rfl (st_geq (b := false) rfl rfl (by decide)) ?_)
      clear hE a; intro a hE
      refine p_cons (s_still p21_6_9 hE (wn_some g21_6_6 rfl rfl) rfl (st_move rfl) ?_)
      clear hE a; intro a hE
      refine p_cons (s_skip p21_6_10 hE (wn_some g21_6_9 rfl rfl) rfl ?_)
      clear hE a; intro a hE
      refine p_cons (s_skip p21_6_11 hE (wn_some g21_6_9 rfl rfl) rfl ?_)
      clear hE a; intro a hE
      refine p_cons (s_skip p21_6_12 hE (wn_some g21_6_9 rfl rfl) rfl ?_)
      clear hE a; intro a hE
      refine p_cons (s_skip p21_6_13 hE (We.wn_undef g21_6_12 rfl) rfl ?_)
      clear hE a; intro a hE
      refine p_cons (s_skip p21_6_14 hE (We.wn_undef g21_6_12 rfl) rfl ?_)
      clear hE a; intro a hE
      refine p_cons (s_skip p21_6_15 hE (We.wn_undef g21_6_12 rfl) rfl ?_)
      clear hE a; intro a hE
      refine p_cons (s_skip p21_6_16 hE (wn_some g21_6_9 rfl rfl) rfl ?_)
      clear hE a; intro a hE
      refine p_cons (s_still p21_6_17 hE (wn_some g21_6_6 rfl rfl) rfl (st_pick rfl rfl) ?_)
      clear hE a; intro a hE
      refine q0 p21_6_18 hE (st_pick rfl rfl) ?_
      clear hE a; intro a hE
      refine p_nil ?_
      refine x_norm ?_
      refine c_cond (t := false) hE rfl ?_
      refine wp_skip ?_
      refine x_norm ?_
      refine c_drawS (S := fun W => W.heap[gd]? = some (.cells #[Value.int .i64 now, Value.slice A L.length c] 50 (0, 0)) ∧ True) rfl rfl (listed := #[false, false, false, false, false, false, false, false, false, false, false, false, false, false, false, false, false, false]) rfl ?_
      intro w19 hh hk
      replace B_g := kp_blk B_g hk (fun h => h)
      replace B_gd := kp_blk B_gd hk (fun h => h)
      replace O_W := wm_keep O_W hk (fun _ _ h => h)
      replace O_D := Rv.rdv_keep O_D hk (fun _ _ h => h)
      replace K_0 := K_0.then_ hk (fun _ h => h.elim)
      clear hh hk
      refine Rv.dq (v := Value.pointer (some ⟨g, 0, none⟩)) p21_8_0 ns21_8 hE wn_none ⟨B_gd, trivial⟩ (fun W hS => (st_move rfl)) ?_; clear hE a; intro a hE
      refine Rv.dq (v := Value.pointer (some ⟨gd, 0, none⟩)) p21_8_2 ns21_8 hE wn_none ⟨B_gd, trivial⟩ (fun W hS => (st_move rfl)) ?_; clear hE a; intro a hE
      refine Rv.dq (v := Value.pointer (some ⟨gd, 0, none⟩)) p21_8_3 ns21_8 hE wn_none ⟨B_gd, trivial⟩ (fun W hS => (st_nil rfl)) ?_; clear hE a; intro a hE
      refine Rv.dq (v := Value.pointer (some ⟨gd, 0, none⟩)) p21_8_4 ns21_8 hE wn_none ⟨B_gd, trivial⟩ (fun W hS => (st_fieldAddr Try.underlying50 rfl tS3 rfl rfl)) ?_; clear hE a; intro a hE
      refine Rv.dq (v := Value.int .i64 now) p21_8_5 ns21_8 hE wn_none ⟨B_gd, trivial⟩ (fun W hS => (st_load1 tA3 rfl ((blk_cell hS.1 0).trans rfl))) ?_; clear hE a; intro a hE
      refine d_one (by kernel_rfl) rfl (s_call (xs := [Operand.tmp 67]) (args := [Value.pointer (some ⟨g, 0, none⟩)]) p21_8_1 hE wn_none rfl rfl Try.func17 cl17 (now_any g now (Value.map mb) _ B_g) ?_)
      rintro e w20 ⟨rfl, hk⟩
      replace B_g := kp_blk B_g hk (fun h => h)
      replace B_gd := kp_blk B_gd hk (fun h => h)
      replace O_W := wm_keep O_W hk (fun _ _ h => h)
      replace O_D := Rv.rdv_keep O_D hk (fun _ _ h => h)
      replace K_0 := K_0.then_ hk (fun _ h => h.elim)
      refine ⟨_, rfl, ?_⟩
      clear hE a; intro a hE
      refine ⟨⟨B_gd, trivial⟩, ?_⟩
      refine Rv.dq (v := Value.bool true) p21_8_6 ns21_8 hE wn_none ⟨B_gd, trivial⟩ (fun W hS => (st_eql (b := true) rfl rfl (by simp))) ?_; clear hE a; intro a hE
      refine Rv.dq (v := Value.bool true) p21_8_7 ns21_8 hE wn_none ⟨B_gd, trivial⟩ (fun W hS => (st_move rfl)) ?_; clear hE a; intro a hE
      refine Rv.dq (v := Value.pointer (some ⟨g, 0, none⟩)) p21_8_8 ns21_8 hE (wn_some g21_8_7 rfl rfl) ⟨B_gd, trivial⟩ (fun W hS => (st_move rfl)) ?_; clear hE a; intro a hE
      refine Rv.dq (v := Value.pointer (some ⟨gd, 0, none⟩)) p21_8_10 ns21_8 hE (wn_some g21_8_7 rfl rfl) ⟨B_gd, trivial⟩ (fun W hS => (st_move rfl)) ?_; clear hE a; intro a hE
      refine Rv.dq (v := Value.pointer (some ⟨gd, 0, none⟩)) p21_8_11 ns21_8 hE (wn_some g21_8_7 rfl rfl) ⟨B_gd, trivial⟩ (fun W hS => (st_nil rfl)) ?_; clear hE a; intro a hE
      refine Rv.dq (v := Value.pointer (some ⟨gd, 1, none⟩)) p21_8_12 ns21_8 hE (wn_some g21_8_7 rfl rfl) ⟨B_gd, trivial⟩ (fun W hS => (st_fieldAddr Try.underlying50 rfl tS48 rfl rfl)) ?_; clear hE a; intro a hE
      refine Rv.dq (v := Value.slice A L.length c) p21_8_13 ns21_8 hE (wn_some g21_8_7 rfl rfl) ⟨B_gd, trivial⟩ (fun W hS => (st_load1 tA48 rfl ((blk_cell hS.1 1).trans rfl))) ?_; clear hE a; intro a hE
      refine Rv.dq (v := Value.int .i64 (L.length : Int)) p21_8_14 ns21_8 hE (wn_some g21_8_7 rfl rfl) ⟨B_gd, trivial⟩ (fun W hS => (st_len Try.underlying48 rfl)) ?_; clear hE a; intro a hE
      have hct : Calls Try.prog 16 #[Value.pointer (some ⟨g, 0, none⟩)] w20 fun e w' => e = .returned (Value.int .i64 (l.length : Int)) ∧ Kp w20 w' (fun _ => False) := by
        exact len_u g now mb l w20 B_g O_W hne
      refine d_one (by kernel_rfl) rfl (s_call (xs := [Operand.tmp 75]) (args := [Value.pointer (some ⟨g, 0, none⟩)]) p21_8_9 hE (wn_some g21_8_7 rfl rfl) rfl rfl Try.func16 cl16 (hct) ?_)
      rintro e w21 ⟨rfl, hk⟩
      replace B_g := kp_blk B_g hk (fun h => h)
      replace B_gd := kp_blk B_gd hk (fun h => h)
      replace O_W := wm_keep O_W hk (fun _ _ h => h)
      replace O_D := Rv.rdv_keep O_D hk (fun _ _ h => h)
      replace K_0 := K_0.then_ hk (fun _ h => h.elim)
      refine ⟨_, rfl, ?_⟩
      clear hE a; intro a hE
      refine ⟨⟨B_gd, trivial⟩, ?_⟩
      refine Rv.dq (v := Value.bool true) p21_8_15 ns21_8 hE (wn_some g21_8_7 rfl rfl) ⟨B_gd, trivial⟩ (fun W hS => (st_eql (b := true) rfl rfl (decide_eq_true (by omega)))) ?_; clear hE a; intro a hE
      refine Rv.dq (v := Value.bool true) p21_8_16 ns21_8 hE wn_none ⟨B_gd, trivial⟩ (fun W hS => (st_pick rfl rfl)) ?_; clear hE a; intro a hE
      refine Rv.dq (v := Value.bool true) p21_8_17 ns21_8 hE wn_none ⟨B_gd, trivial⟩ (fun W hS => (st_assign rfl)) ?_; clear hE a; intro a hE
      refine d_end (by kernel_rfl) ?_
      refine x_norm ?_
      refine wp_ret ?_
      refine ret_one (v := Value.bool true) rfl hE (.tmp rfl .nil) ?_
      exact ⟨rfl, K_0⟩
    ·
      obtain ⟨q, hq⟩ := Option.ne_none_iff_exists'.1 hFN
      have hqp : 1 ≤ q.2 := hrel.pos _ (firstI_spec hq).1
      have hql := hrel.first.trans hq
      refine c_reg R21_1_l ?_
      refine q0 p21_1_0 hE (st_move rfl) ?_
      clear hE a; intro a hE
      refine q0 p21_1_1 hE (st_move rfl) ?_
      clear hE a; intro a hE
      have hct : Calls Try.prog 37 #[Value.pointer (some ⟨g, 0, none⟩), Value.int .i64 x] w fun e w' => e = .returned (Value.tuple #[Value.int .i64 0, Value.int .i64 8]) ∧ Kp w w' (fun _ => False) := by
        have h := due_u g now mb l x w B_g O_W hne
        unfold dueP at h
        rw [hvl] at h
        exact h
      refine p_cons (s_call (xs := [Operand.tmp 14, Operand.tmp 15]) (args := [Value.pointer (some ⟨g, 0, none⟩), Value.int .i64 x]) p21_1_2 hE wn_none rfl rfl Try.func37 cl37 (hct) ?_)
      rintro e w22 ⟨rfl, hk⟩
      replace B_g := kp_blk B_g hk (fun h => h)
      replace B_gd := kp_blk B_gd hk (fun h => h)
      replace O_W := wm_keep O_W hk (fun _ _ h => h)
      replace O_D := Rv.rdv_keep O_D hk (fun _ _ h => h)
      replace K_0 := K_0.then_ hk (fun _ h => h.elim)
      refine ⟨_, rfl, ?_⟩
      clear hE a; intro a hE
      refine q0 p21_1_3 hE (st_move rfl) ?_
      clear hE a; intro a hE
      refine q0 p21_1_4 hE (st_extract rfl rfl) ?_
      clear hE a; intro a hE
      refine q0 p21_1_5 hE (st_extract rfl rfl) ?_
      clear hE a; intro a hE
      refine q0 p21_1_6 hE (st_assign rfl) ?_
      clear hE a; intro a hE
      refine q0 p21_1_7 hE (st_assign rfl) ?_
      clear hE a; intro a hE
      refine p_nil ?_
      refine x_norm ?_
      refine c_reg R21_2_l ?_
      refine q0 p21_2_0 hE (st_move rfl) ?_
      clear hE a; intro a hE
      have hct : Calls Try.prog 14 #[Value.pointer (some ⟨g, 0, none⟩)] w22 fun e w' => e = .returned (Value.tuple #[Value.int .i64 q.2, Value.int .i64 0]) ∧ Kp w22 w' (fun _ => False) := by
        have h := next_u g now mb l w22 (by omega) B_g O_W hne
        unfold nextP at h
        rw [hql] at h
        exact h
      refine p_cons (s_call (xs := [Operand.tmp 20]) (args := [Value.pointer (some ⟨g, 0, none⟩)]) p21_2_1 hE wn_none rfl rfl Try.func14 cl14 (hct) ?_)
      rintro e w23 ⟨rfl, hk⟩
      replace B_g := kp_blk B_g hk (fun h => h)
      replace B_gd := kp_blk B_gd hk (fun h => h)
      replace O_W := wm_keep O_W hk (fun _ _ h => h)
      replace O_D := Rv.rdv_keep O_D hk (fun _ _ h => h)
      replace K_0 := K_0.then_ hk (fun _ h => h.elim)
      refine ⟨_, rfl, ?_⟩
      clear hE a; intro a hE
      refine q0 p21_2_2 hE (st_move rfl) ?_
      clear hE a; intro a hE
      refine q0 p21_2_3 hE (st_extract rfl rfl) ?_
      clear hE a; intro a hE
      refine q0 p21_2_4 hE (st_extract rfl rfl) ?_
      clear hE a; intro a hE
      refine q0 p21_2_5 hE (st_assign rfl) ?_
      clear hE a; intro a hE
      refine q0 p21_2_6 hE (st_assign rfl) ?_
      clear hE a; intro a hE
      refine p_nil ?_
      refine x_norm ?_
      refine c_reg R21_3_l ?_
      refine q0 p21_3_0 hE (st_move rfl) ?_
      clear hE a; intro a hE
      refine q0 p21_3_1 hE (st_move rfl) ?_
      clear hE a; intro a hE
      have hct : Calls Try.prog 38 #[Value.pointer (some ⟨gd, 0, none⟩), Value.int .i64 x] w23 fun e w' => e = .returned (Value.int .i64 (-1)) ∧ Kp w23 w' (fun _ => False) := by
        have h := rdue_any gd A c L now x w23 B_gd O_D hcA hll hnd
        rw [hv] at h
        exact h
      refine p_cons (s_call (xs := [Operand.tmp 24, Operand.tmp 25]) (args := [Value.pointer (some ⟨gd, 0, none⟩), Value.int .i64 x]) p21_3_2 hE wn_none rfl rfl Try.func38 cl38 (hct) ?_)
      rintro e w24 ⟨rfl, hk⟩
      replace B_g := kp_blk B_g hk (fun h => h)
      replace B_gd := kp_blk B_gd hk (fun h => h)
      replace O_W := wm_keep O_W hk (fun _ _ h => h)
      replace O_D := Rv.rdv_keep O_D hk (fun _ _ h => h)
      replace K_0 := K_0.then_ hk (fun _ h => h.elim)
      refine ⟨_, rfl, ?_⟩
      clear hE a; intro a hE
      refine q0 p21_3_3 hE (st_move rfl) ?_
      clear hE a; intro a hE
      have hct : Calls Try.prog 39 #[Value.pointer (some ⟨gd, 0, none⟩)] w24 fun e w' => e = .returned (Value.int .i64 q.2) ∧ Kp w24 w' (fun _ => False) := by
        have h := rnext_any gd A c L now (fun p hp => by have := hrel.pos p hp; omega) w24 B_gd O_D hcA hll hnd
        unfold nextR at h
        rw [hq] at h
        exact h
      refine p_cons (s_call (xs := [Operand.tmp 27]) (args := [Value.pointer (some ⟨gd, 0, none⟩)]) p21_3_4 hE wn_none rfl rfl Try.func39 cl39 (hct) ?_)
      rintro e w25 ⟨rfl, hk⟩
      replace B_g := kp_blk B_g hk (fun h => h)
      replace B_gd := kp_blk B_gd hk (fun h => h)
      replace O_W := wm_keep O_W hk (fun _ _ h => h)
      replace O_D := Rv.rdv_keep O_D hk (fun _ _ h => h)
      replace K_0 := K_0.then_ hk (fun _ h => h.elim)
      refine ⟨_, rfl, ?_⟩
      clear hE a; intro a hE
      refine q0 p21_3_5 hE (st_assign rfl) ?_
      clear hE a; intro a hE
      refine q0 p21_3_6 hE (st_assign rfl) ?_
      clear hE a; intro a hE
      refine p_nil ?_
      refine x_norm ?_
      refine wp_seq ?_
      refine c_reg R21_4_l ?_
      refine q0 p21_4_0 hE (st_move rfl) ?_
      clear hE a; intro a hE
      refine q0 p21_4_1 hE (st_lss (b := true) rfl rfl (by decide)) ?_
      clear hE a; intro a hE
      refine q0 p21_4_2 hE (st_move rfl) ?_
      clear hE a; intro a hE
      refine p_cons (s_still p21_4_3 hE (wn_some g21_4_2 rfl rfl) rfl (st_move rfl) ?_)
      clear hE a; intro a hE
      refine p_cons (s_still p21_4_4 hE (wn_some g21_4_2 rfl rfl) rfl (st_neq (b := false) rfl rfl (by decide)) ?_)
      clear hE a; intro a hE
      refine q0 p21_4_5 hE (st_pick rfl rfl) ?_
      clear hE a; intro a hE
      refine q0 p21_4_6 hE (st_move rfl) ?_
      clear hE a; intro a hE
      refine p_cons (s_still p21_4_7 hE (wn_some g21_4_6 rfl rfl) rfl (st_move rfl) ?_)
      clear hE a; intro a hE
      refine p_cons (s_still p21_4_8 hE (wn_some g21_4_6 rfl rfl) rfl (st_geq (b := false) rfl rfl (by decide)) ?_)
      clear hE a; intro a hE
      refine p_cons (s_still p21_4_9 hE (wn_some g21_4_6 rfl rfl) rfl (st_move rfl) ?_)
      clear hE a; intro a hE
      refine p_cons (s_skip p21_4_10 hE (wn_some g21_4_9 rfl rfl) rfl ?_)
      clear hE a; intro a hE
      refine p_cons (s_skip p21_4_11 hE (wn_some g21_4_9 rfl rfl) rfl ?_)
      clear hE a; intro a hE
      refine p_cons (s_skip p21_4_12 hE (wn_some g21_4_9 rfl rfl) rfl ?_)
      clear hE a; intro a hE
      refine p_cons (s_skip p21_4_13 hE (We.wn_undef g21_4_12 rfl) rfl ?_)
      clear hE a; intro a hE
      refine p_cons (s_skip p21_4_14 hE (We.wn_undef g21_4_12 rfl) rfl ?_)
      clear hE a; intro a hE
      refine p_cons (s_skip p21_4_15 hE (We.wn_undef g21_4_12 rfl) rfl ?_)
      clear hE a; intro a hE
      refine p_cons (s_skip p21_4_16 hE (wn_some g21_4_9 rfl rfl) rfl ?_)
      clear hE a; intro a hE
      refine p_cons (s_still p21_4_17 hE (wn_some g21_4_6 rfl rfl) rfl (st_pick rfl rfl) ?_)
      clear hE a; intro a hE
      refine q0 p21_4_18 hE (st_pick rfl rfl) ?_
      clear hE a; intro a hE
      refine p_nil ?_
      refine x_norm ?_
      refine c_cond (t := false) hE rfl ?_
      refine wp_skip ?_
      refine x_norm ?_
      refine wp_seq ?_
      refine c_reg R21_6_l ?_
      refine q0 p21_6_0 hE (st_move rfl) ?_
      clear hE a; intro a hE
      refine q0 p21_6_1 hE (st_lss (b := false) rfl rfl (decide_eq_false (by omega))) ?_
      clear hE a; intro a hE
      refine q0 p21_6_2 hE (st_move rfl) ?_
      clear hE a; intro a hE
      refine p_cons (s_skip p21_6_3 hE (wn_some g21_6_2 rfl rfl) rfl ?_)
      clear hE a; intro a hE
      refine p_cons (s_skip p21_6_4 hE (wn_some g21_6_2 rfl rfl) rfl ?_)
      clear hE a; intro a hE
      refine q0 p21_6_5 hE (st_pick rfl rfl) ?_
      clear hE a; intro a hE
      refine q0 p21_6_6 hE (st_move rfl) ?_
      clear hE a; intro a hE
      refine p_cons (s_still p21_6_7 hE (wn_some g21_6_6 rfl rfl) rfl (st_move rfl) ?_)
      clear hE a; intro a hE
      refine p_cons (s_still p21_6_8 hE (wn_some g21_6_6 rfl rfl) rfl (st_geq (b := true) rfl rfl (decide_eq_true (by omega))) ?_)
      clear hE a; intro a hE
      refine p_cons (s_still p21_6_9 hE (wn_some g21_6_6 rfl rfl) rfl (st_move rfl) ?_)
      clear hE a; intro a hE
      refine p_cons (s_still p21_6_10 hE (wn_some g21_6_9 rfl rfl) rfl (st_move rfl) ?_)
      clear hE a; intro a hE
      refine p_cons (s_still p21_6_11 hE (wn_some g21_6_9 rfl rfl) rfl (st_neq (b := false) rfl rfl (by decide)) ?_)
      clear hE a; intro a hE
      refine p_cons (s_still p21_6_12 hE (wn_some g21_6_9 rfl rfl) rfl (st_move rfl) ?_)
      clear hE a; intro a hE
      refine p_cons (s_still p21_6_13 hE (wn_some g21_6_12 rfl rfl) rfl (st_move rfl) ?_)
      clear hE a; intro a hE
      refine p_cons (s_still p21_6_14 hE (wn_some g21_6_12 rfl rfl) rfl (st_move rfl) ?_)
      clear hE a; intro a hE
      refine p_cons (s_still p21_6_15 hE (wn_some g21_6_12 rfl rfl) rfl (st_neq (b := false) rfl rfl (by simp)) ?_)
      clear hE a; intro a hE
      refine p_cons (s_still p21_6_16 hE (wn_some g21_6_9 rfl rfl) rfl (st_pick rfl rfl) ?_)
      clear hE a; intro a hE
      refine p_cons (s_still p21_6_17 hE (wn_some g21_6_6 rfl rfl) rfl (st_pick rfl rfl) ?_)
      clear hE a; intro a hE
      refine q0 p21_6_18 hE (st_pick rfl rfl) ?_
      clear hE a; intro a hE
      refine p_nil ?_
      refine x_norm ?_
      refine c_cond (t := false) hE rfl ?_
      refine wp_skip ?_
      refine x_norm ?_
      refine c_drawS (S := fun W => W.heap[gd]? = some (.cells #[Value.int .i64 now, Value.slice A L.length c] 50 (0, 0)) ∧ True) rfl rfl (listed := #[false, false, false, false, false, false, false, false, false, false, false, false, false, false, false, false, false, false]) rfl ?_
      intro w26 hh hk
      replace B_g := kp_blk B_g hk (fun h => h)
      replace B_gd := kp_blk B_gd hk (fun h => h)
      replace O_W := wm_keep O_W hk (fun _ _ h => h)
      replace O_D := Rv.rdv_keep O_D hk (fun _ _ h => h)
      replace K_0 := K_0.then_ hk (fun _ h => h.elim)
      clear hh hk
      refine Rv.dq (v := Value.pointer (some ⟨g, 0, none⟩)) p21_8_0 ns21_8 hE wn_none ⟨B_gd, trivial⟩ (fun W hS => (st_move rfl)) ?_; clear hE a; intro a hE
      refine Rv.dq (v := Value.pointer (some ⟨gd, 0, none⟩)) p21_8_2 ns21_8 hE wn_none ⟨B_gd, trivial⟩ (fun W hS => (st_move rfl)) ?_; clear hE a; intro a hE
      refine Rv.dq (v := Value.pointer (some ⟨gd, 0, none⟩)) p21_8_3 ns21_8 hE wn_none ⟨B_gd, trivial⟩ (fun W hS => (st_nil rfl)) ?_; clear hE a; intro a hE
      refine Rv.dq (v := Value.pointer (some ⟨gd, 0, none⟩)) p21_8_4 ns21_8 hE wn_none ⟨B_gd, trivial⟩ (fun W hS => (st_fieldAddr Try.underlying50 rfl tS3 rfl rfl)) ?_; clear hE a; intro a hE
      refine Rv.dq (v := Value.int .i64 now) p21_8_5 ns21_8 hE wn_none ⟨B_gd, trivial⟩ (fun W hS => (st_load1 tA3 rfl ((blk_cell hS.1 0).trans rfl))) ?_; clear hE a; intro a hE
      refine d_one (by kernel_rfl) rfl (s_call (xs := [Operand.tmp 67]) (args := [Value.pointer (some ⟨g, 0, none⟩)]) p21_8_1 hE wn_none rfl rfl Try.func17 cl17 (now_any g now (Value.map mb) _ B_g) ?_)
      rintro e w27 ⟨rfl, hk⟩
      replace B_g := kp_blk B_g hk (fun h => h)
      replace B_gd := kp_blk B_gd hk (fun h => h)
      replace O_W := wm_keep O_W hk (fun _ _ h => h)
      replace O_D := Rv.rdv_keep O_D hk (fun _ _ h => h)
      replace K_0 := K_0.then_ hk (fun _ h => h.elim)
      refine ⟨_, rfl, ?_⟩
      clear hE a; intro a hE
      refine ⟨⟨B_gd, trivial⟩, ?_⟩
      refine Rv.dq (v := Value.bool true) p21_8_6 ns21_8 hE wn_none ⟨B_gd, trivial⟩ (fun W hS => (st_eql (b := true) rfl rfl (by simp))) ?_; clear hE a; intro a hE
      refine Rv.dq (v := Value.bool true) p21_8_7 ns21_8 hE wn_none ⟨B_gd, trivial⟩ (fun W hS => (st_move rfl)) ?_; clear hE a; intro a hE
      refine Rv.dq (v := Value.pointer (some ⟨g, 0, none⟩)) p21_8_8 ns21_8 hE (wn_some g21_8_7 rfl rfl) ⟨B_gd, trivial⟩ (fun W hS => (st_move rfl)) ?_; clear hE a; intro a hE
      refine Rv.dq (v := Value.pointer (some ⟨gd, 0, none⟩)) p21_8_10 ns21_8 hE (wn_some g21_8_7 rfl rfl) ⟨B_gd, trivial⟩ (fun W hS => (st_move rfl)) ?_; clear hE a; intro a hE
      refine Rv.dq (v := Value.pointer (some ⟨gd, 0, none⟩)) p21_8_11 ns21_8 hE (wn_some g21_8_7 rfl rfl) ⟨B_gd, trivial⟩ (fun W hS => (st_nil rfl)) ?_; clear hE a; intro a hE
      refine Rv.dq (v := Value.pointer (some ⟨gd, 1, none⟩)) p21_8_12 ns21_8 hE (wn_some g21_8_7 rfl rfl) ⟨B_gd, trivial⟩ (fun W hS => (st_fieldAddr Try.underlying50 rfl tS48 rfl rfl)) ?_; clear hE a; intro a hE
      refine Rv.dq (v := Value.slice A L.length c) p21_8_13 ns21_8 hE (wn_some g21_8_7 rfl rfl) ⟨B_gd, trivial⟩ (fun W hS => (st_load1 tA48 rfl ((blk_cell hS.1 1).trans rfl))) ?_; clear hE a; intro a hE
      refine Rv.dq (v := Value.int .i64 (L.length : Int)) p21_8_14 ns21_8 hE (wn_some g21_8_7 rfl rfl) ⟨B_gd, trivial⟩ (fun W hS => (st_len Try.underlying48 rfl)) ?_; clear hE a; intro a hE
      have hct : Calls Try.prog 16 #[Value.pointer (some ⟨g, 0, none⟩)] w27 fun e w' => e = .returned (Value.int .i64 (l.length : Int)) ∧ Kp w27 w' (fun _ => False) := by
        exact len_u g now mb l w27 B_g O_W hne
      refine d_one (by kernel_rfl) rfl (s_call (xs := [Operand.tmp 75]) (args := [Value.pointer (some ⟨g, 0, none⟩)]) p21_8_9 hE (wn_some g21_8_7 rfl rfl) rfl rfl Try.func16 cl16 (hct) ?_)
      rintro e w28 ⟨rfl, hk⟩
      replace B_g := kp_blk B_g hk (fun h => h)
      replace B_gd := kp_blk B_gd hk (fun h => h)
      replace O_W := wm_keep O_W hk (fun _ _ h => h)
      replace O_D := Rv.rdv_keep O_D hk (fun _ _ h => h)
      replace K_0 := K_0.then_ hk (fun _ h => h.elim)
      refine ⟨_, rfl, ?_⟩
      clear hE a; intro a hE
      refine ⟨⟨B_gd, trivial⟩, ?_⟩
      refine Rv.dq (v := Value.bool true) p21_8_15 ns21_8 hE (wn_some g21_8_7 rfl rfl) ⟨B_gd, trivial⟩ (fun W hS => (st_eql (b := true) rfl rfl (decide_eq_true (by omega)))) ?_; clear hE a; intro a hE
      refine Rv.dq (v := Value.bool true) p21_8_16 ns21_8 hE wn_none ⟨B_gd, trivial⟩ (fun W hS => (st_pick rfl rfl)) ?_; clear hE a; intro a hE
      refine Rv.dq (v := Value.bool true) p21_8_17 ns21_8 hE wn_none ⟨B_gd, trivial⟩ (fun W hS => (st_assign rfl)) ?_; clear hE a; intro a hE
      refine d_end (by kernel_rfl) ?_
      refine x_norm ?_
      refine wp_ret ?_
      refine ret_one (v := Value.bool true) rfl hE (.tmp rfl .nil) ?_
      exact ⟨rfl, K_0⟩
theorem R5_0_l : List.range (regOf Try.f5 0).size = [0] := by kernel_rfl
theorem R5_1_l : List.range (regOf Try.f5 1).size = [0, 1, 2] := by kernel_rfl
theorem R5_2_l : List.range (regOf Try.f5 2).size = [0, 1, 2] := by kernel_rfl
theorem R5_3_l : List.range (regOf Try.f5 3).size = [0] := by kernel_rfl
theorem R5_4_l : List.range (regOf Try.f5 4).size = [0, 1, 2, 3, 4, 5, 6, 7] := by kernel_rfl
theorem R5_6_l : List.range (regOf Try.f5 6).size = [0, 1, 2, 3, 4, 5] := by kernel_rfl
theorem R5_7_l : List.range (regOf Try.f5 7).size = [0] := by kernel_rfl
theorem R5_8_l : List.range (regOf Try.f5 8).size = [0, 1, 2, 3] := by kernel_rfl
theorem R5_15_l : List.range (regOf Try.f5 15).size = [0, 1] := by kernel_rfl
theorem R5_16_l : List.range (regOf Try.f5 16).size = [0, 1, 2, 3, 4, 5, 6, 7, 8, 9, 10, 11, 12, 13] := by kernel_rfl
theorem R5_17_l : List.range (regOf Try.f5 17).size = [0, 1] := by kernel_rfl
theorem R5_18_l : List.range (regOf Try.f5 18).size = [0] := by kernel_rfl
theorem R5_19_l : List.range (regOf Try.f5 19).size = [0, 1, 2, 3] := by kernel_rfl
theorem R5_20_l : List.range (regOf Try.f5 20).size = [0, 1, 2] := by kernel_rfl
theorem R5_21_l : List.range (regOf Try.f5 21).size = [0, 1, 2, 3] := by kernel_rfl
theorem R5_22_l : List.range (regOf Try.f5 22).size = [0, 1, 2] := by kernel_rfl
theorem R5_23_l : List.range (regOf Try.f5 23).size = [0, 1, 2, 3, 4, 5, 6, 7, 8, 9] := by kernel_rfl
theorem R5_24_l : List.range (regOf Try.f5 24).size = [0, 1] := by kernel_rfl
theorem R5_25_l : List.range (regOf Try.f5 25).size = [0, 1, 2, 3, 4, 5] := by kernel_rfl
theorem R5_26_l : List.range (regOf Try.f5 26).size = [0, 1] := by kernel_rfl
theorem R5_27_l : List.range (regOf Try.f5 27).size = [0, 1, 2, 3, 4, 5, 6, 7, 8] := by kernel_rfl
theorem R5_28_l : List.range (regOf Try.f5 28).size = [0, 1, 2, 3, 4, 5, 6, 7] := by kernel_rfl
theorem R5_29_l : List.range (regOf Try.f5 29).size = [0, 1, 2, 3, 4, 5, 6, 7] := by kernel_rfl
theorem R5_30_l : List.range (regOf Try.f5 30).size = [0, 1, 2, 3, 4, 5, 6, 7, 8, 9, 10] := by kernel_rfl
theorem R5_9_l : List.range (regOf Try.f5 9).size = [0, 1, 2] := by kernel_rfl
theorem R5_10_l : List.range (regOf Try.f5 10).size = [0, 1] := by kernel_rfl
theorem R5_11_l : List.range (regOf Try.f5 11).size = [0] := by kernel_rfl
theorem R5_12_l : List.range (regOf Try.f5 12).size = [0, 1] := by kernel_rfl
theorem R5_13_l : List.range (regOf Try.f5 13).size = [0, 1] := by kernel_rfl
theorem R5_14_l : List.range (regOf Try.f5 14).size = [0, 1] := by kernel_rfl
theorem R5_31_l : List.range (regOf Try.f5 31).size = [0, 1, 2, 3, 4, 5, 6, 7, 8, 9] := by kernel_rfl
theorem R5_32_l : List.range (regOf Try.f5 32).size = [0] := by kernel_rfl
theorem R5_5_l : List.range (regOf Try.f5 5).size = [0, 1, 2] := by kernel_rfl
theorem R5_33_l : List.range (regOf Try.f5 33).size = [0, 1] := by kernel_rfl
theorem body5 : Try.f5.body = some (.seq (.region 0 (regOf Try.f5 0) false) (.seq (.region 1 (regOf Try.f5 1) false) (.seq (.region 2 (regOf Try.f5 2) false) (.seq (.seq (.region 3 (regOf Try.f5 3) false) (.block 0 (.loop (.seq (.seq (.region 4 (regOf Try.f5 4) false) (.cond (Operand.tmp 23) (.skip) (.exit 0))) (.seq (.block 1 (.seq (.region 6 (regOf Try.f5 6) false) (.seq (.region 7 (regOf Try.f5 7) false) (.seq (.seq (.region 8 (regOf Try.f5 8) false) (.block 2 (.seq (.region 15 (regOf Try.f5 15) false) (.cond (Operand.tmp 43) (.region 16 (regOf Try.f5 16) true) (.seq (.region 17 (regOf Try.f5 17) false) (.cond (Operand.tmp 58) (.seq (.region 18 (regOf Try.f5 18) false) (.seq (.seq (.region 19 (regOf Try.f5 19) false) (.cond (Operand.tmp 63) (.region 20 (regOf Try.f5 20) false) (.skip))) (.seq (.seq (.region 21 (regOf Try.f5 21) false) (.cond (Operand.tmp 69) (.region 22 (regOf Try.f5 22) false) (.skip))) (.region 23 (regOf Try.f5 23) false)))) (.seq (.region 24 (regOf Try.f5 24) false) (.cond (Operand.tmp 81) (.region 25 (regOf Try.f5 25) false) (.seq (.region 26 (regOf Try.f5 26) false) (.cond (Operand.tmp 88) (.seq (.region 27 (regOf Try.f5 27) false) (.seq (.region 28 (regOf Try.f5 28) false) (.cond (Operand.tmp 104) (.region 29 (regOf Try.f5 29) false) (.region 30 (regOf Try.f5 30) false)))) (.seq (.region 9 (regOf Try.f5 9) false) (.seq (.seq (.region 10 (regOf Try.f5 10) false) (.cond (Operand.tmp 37) (.seq (.region 11 (regOf Try.f5 11) false) (.ret)) (.skip))) (.seq (.region 12 (regOf Try.f5 12) false) (.seq (.region 13 (regOf Try.f5 13) false) (.region 14 (regOf Try.f5 14) false))))))))))))))) (.seq (.region 31 (regOf Try.f5 31) false) (.cond (Operand.tmp 131) (.seq (.region 32 (regOf Try.f5 32) false) (.ret)) (.skip))))))) (.region 5 (regOf Try.f5 5) false)))))) (.seq (.region 33 (regOf Try.f5 33) false) (.ret)))))) := by kernel_rfl
theorem p5_0_0 : pj (regOf Try.f5 0) 0 = some (some 2, .assign (.const (.bool false)), 4, none) := by kernel_rfl
theorem p5_1_0 : pj (regOf Try.f5 1) 0 = some (some 12, .build 29 #[], 29, none) := by kernel_rfl
theorem p5_1_1 : pj (regOf Try.f5 1) 1 = some (some 13, .box 29 (.tmp 12), 24, none) := by kernel_rfl
theorem p5_1_2 : pj (regOf Try.f5 1) 2 = some (some 3, .assign (.tmp 13), 24, none) := by kernel_rfl
theorem p5_2_0 : pj (regOf Try.f5 2) 0 = some (some 14, .build 50 #[], 50, none) := by kernel_rfl
theorem p5_2_1 : pj (regOf Try.f5 2) 1 = some (some 15, .box 50 (.tmp 14), 47, none) := by kernel_rfl
theorem p5_2_2 : pj (regOf Try.f5 2) 2 = some (some 4, .assign (.tmp 15), 47, none) := by kernel_rfl
theorem p5_3_0 : pj (regOf Try.f5 3) 0 = some (some 5, .assign (.const (.int .i64 0)), 3, none) := by kernel_rfl
theorem p5_4_0 : pj (regOf Try.f5 4) 0 = some (some 16, .move (.tmp 5), 3, none) := by kernel_rfl
theorem p5_4_1 : pj (regOf Try.f5 4) 1 = some (some 17, .move (.tmp 0), 22, none) := by kernel_rfl
theorem p5_4_2 : pj (regOf Try.f5 4) 2 = some (some 18, .call { callee := .builtin .len, args := #[.tmp 17], argTypes := #[22] }, 3, none) := by kernel_rfl
theorem p5_4_3 : pj (regOf Try.f5 4) 3 = some (some 19, .binOp .lss 3 (.tmp 16) (.tmp 18) 3, 4, none) := by kernel_rfl
theorem p5_4_4 : pj (regOf Try.f5 4) 4 = some (some 20, .move (.tmp 19), 4, none) := by kernel_rfl
theorem p5_4_5 : pj (regOf Try.f5 4) 5 = some (some 21, .move (.tmp 5), 3, some (4, true)) := by kernel_rfl
theorem g5_4_4 : dstOf (regOf Try.f5 4) 4 = some 20 := by kernel_rfl
theorem p5_4_6 : pj (regOf Try.f5 4) 6 = some (some 22, .binOp .lss 3 (.tmp 21) (.const (.int .i64 60)) 3, 4, some (4, true)) := by kernel_rfl
theorem p5_4_7 : pj (regOf Try.f5 4) 7 = some (some 23, .pick (.tmp 20) (.tmp 22) (.const (.bool false)), 4, none) := by kernel_rfl
theorem p5_6_0 : pj (regOf Try.f5 6) 0 = some (some 26, .move (.tmp 0), 22, none) := by kernel_rfl
theorem p5_6_1 : pj (regOf Try.f5 6) 1 = some (some 27, .move (.tmp 5), 3, none) := by kernel_rfl
theorem p5_6_2 : pj (regOf Try.f5 6) 2 = some (some 28, .indexAddr 22 (.tmp 26) (.tmp 27), 0, none) := by kernel_rfl
theorem tS33 : (Try.prog.info? 33).map (·.size) = some 3 := by kernel_rfl
theorem p5_6_3 : pj (regOf Try.f5 6) 3 = some (some 29, .load 33 (.tmp 28), 33, none) := by kernel_rfl
theorem tA33 : (Try.prog.underlying 33).map aggD = some true := by kernel_rfl
theorem p5_6_4 : pj (regOf Try.f5 6) 4 = some (some 6, .alloc 33, 0, none) := by kernel_rfl
theorem tZ33 : (Try.prog.info? 33).bind (·.zero) = some (Value.agg #[Value.int .i64 0, Value.int .i64 0, Value.int .i64 0]) := by kernel_rfl
theorem p5_6_5 : pj (regOf Try.f5 6) 5 = some (none, .store 33 (.tmp 6) (.tmp 29), 0, none) := by kernel_rfl
theorem p5_7_0 : pj (regOf Try.f5 7) 0 = some (some 7, .assign (.const (.bool true)), 4, none) := by kernel_rfl
theorem p5_8_0 : pj (regOf Try.f5 8) 0 = some (some 30, .fieldAddr 33 (.tmp 6) 0, 0, none) := by kernel_rfl
theorem p5_8_1 : pj (regOf Try.f5 8) 1 = some (some 31, .load 3 (.tmp 30), 3, none) := by kernel_rfl
theorem p5_8_2 : pj (regOf Try.f5 8) 2 = some (some 32, .convert 3 23 (.tmp 31), 23, none) := by kernel_rfl
theorem p5_8_3 : pj (regOf Try.f5 8) 3 = some (some 33, .binOp .rem 23 (.tmp 32) (.const (.int .u64 5)) 23, 23, none) := by kernel_rfl
theorem p5_15_0 : pj (regOf Try.f5 15) 0 = some (some 44, .binOp .eql 23 (.tmp 33) (.const (.int .u64 0)) 23, 4, none) := by kernel_rfl
theorem p5_15_1 : pj (regOf Try.f5 15) 1 = some (some 43, .assign (.tmp 44), 4, none) := by kernel_rfl
theorem ns5_16 : Region.noSelect (regOf Try.f5 16) = true := by kernel_rfl
theorem p5_16_0 : pj (regOf Try.f5 16) 0 = some (some 45, .move (.tmp 3), 24, none) := by kernel_rfl
theorem p5_16_1 : pj (regOf Try.f5 16) 1 = some (some 46, .fieldAddr 33 (.tmp 6) 1, 0, none) := by kernel_rfl
theorem p5_16_2 : pj (regOf Try.f5 16) 2 = some (some 47, .load 3 (.tmp 46), 3, none) := by kernel_rfl
theorem p5_16_3 : pj (regOf Try.f5 16) 3 = some (some 48, .fieldAddr 33 (.tmp 6) 2, 0, none) := by kernel_rfl
theorem p5_16_4 : pj (regOf Try.f5 16) 4 = some (some 49, .load 3 (.tmp 48), 3, none) := by kernel_rfl
theorem p5_16_6 : pj (regOf Try.f5 16) 6 = some (some 51, .move (.tmp 4), 47, none) := by kernel_rfl
theorem p5_16_7 : pj (regOf Try.f5 16) 7 = some (some 52, .fieldAddr 33 (.tmp 6) 1, 0, none) := by kernel_rfl
theorem p5_16_8 : pj (regOf Try.f5 16) 8 = some (some 53, .load 3 (.tmp 52), 3, none) := by kernel_rfl
theorem p5_16_9 : pj (regOf Try.f5 16) 9 = some (some 54, .fieldAddr 33 (.tmp 6) 2, 0, none) := by kernel_rfl
theorem p5_16_10 : pj (regOf Try.f5 16) 10 = some (some 55, .load 3 (.tmp 54), 3, none) := by kernel_rfl
theorem p5_16_5 : pj (regOf Try.f5 16) 5 = some (some 50, .call { callee := .value (.func 8), args := #[.tmp 45, .tmp 47, .tmp 49], argTypes := #[24, 3, 3] }, 30, none) := by kernel_rfl
theorem cl8 : callable Try.f8 = true := by kernel_rfl
theorem p5_16_11 : pj (regOf Try.f5 16) 11 = some (some 56, .call { callee := .value (.func 18), args := #[.tmp 51, .tmp 53, .tmp 55], argTypes := #[47, 3, 3] }, 3, none) := by kernel_rfl
theorem cl18 : callable Try.f18 = true := by kernel_rfl
theorem p5_16_12 : pj (regOf Try.f5 16) 12 = some (some 57, .binOp .eql 3 (.tmp 50) (.tmp 56) 3, 4, none) := by kernel_rfl
theorem p5_16_13 : pj (regOf Try.f5 16) 13 = some (some 7, .assign (.tmp 57), 4, none) := by kernel_rfl
theorem p5_31_0 : pj (regOf Try.f5 31) 0 = some (some 122, .move (.tmp 7), 4, none) := by kernel_rfl
theorem p5_31_1 : pj (regOf Try.f5 31) 1 = some (some 123, .unOp .not 4 (.tmp 122), 4, none) := by kernel_rfl
theorem p5_31_2 : pj (regOf Try.f5 31) 2 = some (some 124, .move (.tmp 123), 4, none) := by kernel_rfl
theorem p5_31_3 : pj (regOf Try.f5 31) 3 = some (some 125, .move (.tmp 3), 24, some (2, false)) := by kernel_rfl
theorem g5_31_2 : dstOf (regOf Try.f5 31) 2 = some 124 := by kernel_rfl
theorem p5_31_4 : pj (regOf Try.f5 31) 4 = some (some 126, .move (.tmp 4), 47, some (2, false)) := by kernel_rfl
theorem p5_31_5 : pj (regOf Try.f5 31) 5 = some (some 127, .fieldAddr 33 (.tmp 6) 1, 0, some (2, false)) := by kernel_rfl
theorem p5_31_6 : pj (regOf Try.f5 31) 6 = some (some 128, .load 3 (.tmp 127), 3, some (2, false)) := by kernel_rfl
theorem p5_31_7 : pj (regOf Try.f5 31) 7 = some (some 129, .call { callee := .value (.func 21), args := #[.tmp 125, .tmp 126, .tmp 128], argTypes := #[24, 47, 3] }, 4, some (2, false)) := by kernel_rfl
theorem cl21 : callable Try.f21 = true := by kernel_rfl
theorem p5_31_8 : pj (regOf Try.f5 31) 8 = some (some 130, .unOp .not 4 (.tmp 129), 4, some (2, false)) := by kernel_rfl
theorem p5_31_9 : pj (regOf Try.f5 31) 9 = some (some 131, .pick (.tmp 124) (.const (.bool true)) (.tmp 130), 4, none) := by kernel_rfl
theorem p5_5_0 : pj (regOf Try.f5 5) 0 = some (some 24, .move (.tmp 5), 3, none) := by kernel_rfl
theorem p5_5_1 : pj (regOf Try.f5 5) 1 = some (some 25, .binOp .add 3 (.tmp 24) (.const (.int .i64 1)) 3, 3, none) := by kernel_rfl
theorem p5_5_2 : pj (regOf Try.f5 5) 2 = some (some 5, .assign (.tmp 25), 3, none) := by kernel_rfl
theorem p5_17_0 : pj (regOf Try.f5 17) 0 = some (some 59, .binOp .eql 23 (.tmp 33) (.const (.int .u64 1)) 23, 4, none) := by kernel_rfl
theorem p5_17_1 : pj (regOf Try.f5 17) 1 = some (some 58, .assign (.tmp 59), 4, none) := by kernel_rfl
theorem p5_18_0 : pj (regOf Try.f5 18) 0 = some (some 8, .assign (.const (.int .i64 0)), 3, none) := by kernel_rfl
theorem p5_19_0 : pj (regOf Try.f5 19) 0 = some (some 60, .move (.tmp 4), 47, none) := by kernel_rfl
theorem p5_19_1 : pj (regOf Try.f5 19) 1 = some (some 61, .fieldAddr 33 (.tmp 6) 1, 0, none) := by kernel_rfl
theorem p5_19_2 : pj (regOf Try.f5 19) 2 = some (some 62, .load 3 (.tmp 61), 3, none) := by kernel_rfl
theorem p5_19_3 : pj (regOf Try.f5 19) 3 = some (some 63, .call { callee := .value (.func 19), args := #[.tmp 60, .tmp 62], argTypes := #[47, 3] }, 4, none) := by kernel_rfl
theorem cl19 : callable Try.f19 = true := by kernel_rfl
theorem p5_20_0 : pj (regOf Try.f5 20) 0 = some (some 64, .move (.tmp 8), 3, none) := by kernel_rfl
theorem p5_20_1 : pj (regOf Try.f5 20) 1 = some (some 65, .binOp .add 3 (.tmp 64) (.const (.int .i64 1)) 3, 3, none) := by kernel_rfl
theorem p5_20_2 : pj (regOf Try.f5 20) 2 = some (some 8, .assign (.tmp 65), 3, none) := by kernel_rfl
theorem p5_21_0 : pj (regOf Try.f5 21) 0 = some (some 66, .move (.tmp 4), 47, none) := by kernel_rfl
theorem p5_21_1 : pj (regOf Try.f5 21) 1 = some (some 67, .fieldAddr 33 (.tmp 6) 2, 0, none) := by kernel_rfl
theorem p5_21_2 : pj (regOf Try.f5 21) 2 = some (some 68, .load 3 (.tmp 67), 3, none) := by kernel_rfl
theorem p5_21_3 : pj (regOf Try.f5 21) 3 = some (some 69, .call { callee := .value (.func 19), args := #[.tmp 66, .tmp 68], argTypes := #[47, 3] }, 4, none) := by kernel_rfl
theorem p5_22_0 : pj (regOf Try.f5 22) 0 = some (some 70, .move (.tmp 8), 3, none) := by kernel_rfl
theorem p5_22_1 : pj (regOf Try.f5 22) 1 = some (some 71, .binOp .add 3 (.tmp 70) (.const (.int .i64 1)) 3, 3, none) := by kernel_rfl
theorem p5_22_2 : pj (regOf Try.f5 22) 2 = some (some 8, .assign (.tmp 71), 3, none) := by kernel_rfl
theorem p5_23_0 : pj (regOf Try.f5 23) 0 = some (some 72, .move (.tmp 3), 24, none) := by kernel_rfl
theorem p5_23_1 : pj (regOf Try.f5 23) 1 = some (some 73, .fieldAddr 33 (.tmp 6) 1, 0, none) := by kernel_rfl
theorem p5_23_2 : pj (regOf Try.f5 23) 2 = some (some 74, .load 3 (.tmp 73), 3, none) := by kernel_rfl
theorem p5_23_3 : pj (regOf Try.f5 23) 3 = some (some 75, .fieldAddr 33 (.tmp 6) 2, 0, none) := by kernel_rfl
theorem p5_23_4 : pj (regOf Try.f5 23) 4 = some (some 76, .load 3 (.tmp 75), 3, none) := by kernel_rfl
theorem p5_23_5 : pj (regOf Try.f5 23) 5 = some (some 77, .buildSlice 35 2 #[(0, .tmp 74), (1, .tmp 76)], 35, none) := by kernel_rfl
theorem p5_23_6 : pj (regOf Try.f5 23) 6 = some (some 78, .call { callee := .value (.func 9), args := #[.tmp 72, .tmp 77], argTypes := #[24, 35] }, 3, none) := by kernel_rfl
theorem cl9 : callable Try.f9 = true := by kernel_rfl
theorem p5_23_7 : pj (regOf Try.f5 23) 7 = some (some 79, .move (.tmp 8), 3, none) := by kernel_rfl
theorem p5_23_8 : pj (regOf Try.f5 23) 8 = some (some 80, .binOp .eql 3 (.tmp 78) (.tmp 79) 3, 4, none) := by kernel_rfl
theorem p5_23_9 : pj (regOf Try.f5 23) 9 = some (some 7, .assign (.tmp 80), 4, none) := by kernel_rfl
theorem p5_24_0 : pj (regOf Try.f5 24) 0 = some (some 82, .binOp .eql 23 (.tmp 33) (.const (.int .u64 2)) 23, 4, none) := by kernel_rfl
theorem p5_24_1 : pj (regOf Try.f5 24) 1 = some (some 81, .assign (.tmp 82), 4, none) := by kernel_rfl
theorem p5_25_0 : pj (regOf Try.f5 25) 0 = some (some 83, .move (.tmp 3), 24, none) := by kernel_rfl
theorem p5_25_1 : pj (regOf Try.f5 25) 1 = some (some 84, .call { callee := .value (.func 10), args := #[.tmp 83], argTypes := #[24] }, 35, none) := by kernel_rfl
theorem cl10 : callable Try.f10 = true := by kernel_rfl
theorem p5_25_2 : pj (regOf Try.f5 25) 2 = some (some 85, .move (.tmp 4), 47, none) := by kernel_rfl
theorem p5_25_3 : pj (regOf Try.f5 25) 3 = some (some 86, .call { callee := .value (.func 20), args := #[.tmp 85, .const (.int .i64 1)], argTypes := #[47, 3] }, 35, none) := by kernel_rfl
theorem cl20 : callable Try.f20 = true := by kernel_rfl
theorem p5_25_4 : pj (regOf Try.f5 25) 4 = some (some 87, .call { callee := .value (.func 15), args := #[.tmp 84, .tmp 86], argTypes := #[35, 35] }, 4, none) := by kernel_rfl
theorem cl15 : callable Try.f15 = true := by kernel_rfl
theorem p5_25_5 : pj (regOf Try.f5 25) 5 = some (some 7, .assign (.tmp 87), 4, none) := by kernel_rfl
theorem p5_26_0 : pj (regOf Try.f5 26) 0 = some (some 89, .binOp .eql 23 (.tmp 33) (.const (.int .u64 3)) 23, 4, none) := by kernel_rfl
theorem p5_26_1 : pj (regOf Try.f5 26) 1 = some (some 88, .assign (.tmp 89), 4, none) := by kernel_rfl
theorem p5_27_0 : pj (regOf Try.f5 27) 0 = some (some 91, .move (.tmp 3), 24, none) := by kernel_rfl
theorem p5_27_1 : pj (regOf Try.f5 27) 1 = some (some 92, .fieldAddr 33 (.tmp 6) 2, 0, none) := by kernel_rfl
theorem p5_27_2 : pj (regOf Try.f5 27) 2 = some (some 93, .load 3 (.tmp 92), 3, none) := by kernel_rfl
theorem p5_27_3 : pj (regOf Try.f5 27) 3 = some (some 94, .call { callee := .value (.func 13), args := #[.tmp 91, .tmp 93], argTypes := #[24, 3] }, 40, none) := by kernel_rfl
theorem cl13 : callable Try.f13 = true := by kernel_rfl
theorem p5_27_4 : pj (regOf Try.f5 27) 4 = some (some 90, .move (.tmp 94), 40, none) := by kernel_rfl
theorem p5_27_5 : pj (regOf Try.f5 27) 5 = some (some 95, .extract (.tmp 90) 0, 35, none) := by kernel_rfl
theorem p5_27_6 : pj (regOf Try.f5 27) 6 = some (some 96, .extract (.tmp 90) 1, 30, none) := by kernel_rfl
theorem p5_27_7 : pj (regOf Try.f5 27) 7 = some (some 9, .assign (.tmp 95), 35, none) := by kernel_rfl
theorem p5_27_8 : pj (regOf Try.f5 27) 8 = some (some 10, .assign (.tmp 96), 30, none) := by kernel_rfl
theorem p5_28_0 : pj (regOf Try.f5 28) 0 = some (some 97, .fieldAddr 33 (.tmp 6) 2, 0, none) := by kernel_rfl
theorem p5_28_1 : pj (regOf Try.f5 28) 1 = some (some 98, .load 3 (.tmp 97), 3, none) := by kernel_rfl
theorem p5_28_2 : pj (regOf Try.f5 28) 2 = some (some 99, .binOp .lss 3 (.tmp 98) (.const (.int .i64 0)) 3, 4, none) := by kernel_rfl
theorem p5_28_3 : pj (regOf Try.f5 28) 3 = some (some 100, .move (.tmp 99), 4, none) := by kernel_rfl
theorem p5_28_4 : pj (regOf Try.f5 28) 4 = some (some 101, .fieldAddr 33 (.tmp 6) 2, 0, some (3, false)) := by kernel_rfl
theorem g5_28_3 : dstOf (regOf Try.f5 28) 3 = some 100 := by kernel_rfl
theorem p5_28_5 : pj (regOf Try.f5 28) 5 = some (some 102, .load 3 (.tmp 101), 3, some (3, false)) := by kernel_rfl
theorem p5_28_6 : pj (regOf Try.f5 28) 6 = some (some 103, .binOp .gtr 3 (.tmp 102) (.const (.int .i64 1099511627776)) 3, 4, some (3, false)) := by kernel_rfl
theorem p5_28_7 : pj (regOf Try.f5 28) 7 = some (some 104, .pick (.tmp 100) (.const (.bool true)) (.tmp 103), 4, none) := by kernel_rfl
theorem p5_29_0 : pj (regOf Try.f5 29) 0 = some (some 105, .move (.tmp 10), 30, none) := by kernel_rfl
theorem p5_29_1 : pj (regOf Try.f5 29) 1 = some (some 106, .binOp .eql 30 (.tmp 105) (.const (.int .i64 1)) 30, 4, none) := by kernel_rfl
theorem p5_29_2 : pj (regOf Try.f5 29) 2 = some (some 107, .move (.tmp 106), 4, none) := by kernel_rfl
theorem p5_29_3 : pj (regOf Try.f5 29) 3 = some (some 108, .move (.tmp 9), 35, some (2, true)) := by kernel_rfl
theorem g5_29_2 : dstOf (regOf Try.f5 29) 2 = some 107 := by kernel_rfl
theorem p5_29_4 : pj (regOf Try.f5 29) 4 = some (some 109, .call { callee := .builtin .len, args := #[.tmp 108], argTypes := #[35] }, 3, some (2, true)) := by kernel_rfl
theorem p5_29_5 : pj (regOf Try.f5 29) 5 = some (some 110, .binOp .eql 3 (.tmp 109) (.const (.int .i64 0)) 3, 4, some (2, true)) := by kernel_rfl
theorem p5_29_6 : pj (regOf Try.f5 29) 6 = some (some 111, .pick (.tmp 107) (.tmp 110) (.const (.bool false)), 4, none) := by kernel_rfl
theorem p5_29_7 : pj (regOf Try.f5 29) 7 = some (some 7, .assign (.tmp 111), 4, none) := by kernel_rfl
theorem p5_30_0 : pj (regOf Try.f5 30) 0 = some (some 112, .move (.tmp 10), 30, none) := by kernel_rfl
theorem p5_30_1 : pj (regOf Try.f5 30) 1 = some (some 113, .binOp .eql 30 (.tmp 112) (.const (.int .i64 0)) 30, 4, none) := by kernel_rfl
theorem p5_30_2 : pj (regOf Try.f5 30) 2 = some (some 114, .move (.tmp 113), 4, none) := by kernel_rfl
theorem p5_30_3 : pj (regOf Try.f5 30) 3 = some (some 115, .move (.tmp 9), 35, some (2, true)) := by kernel_rfl
theorem g5_30_2 : dstOf (regOf Try.f5 30) 2 = some 114 := by kernel_rfl
theorem p5_30_4 : pj (regOf Try.f5 30) 4 = some (some 116, .move (.tmp 4), 47, some (2, true)) := by kernel_rfl
theorem p5_30_5 : pj (regOf Try.f5 30) 5 = some (some 117, .fieldAddr 33 (.tmp 6) 2, 0, some (2, true)) := by kernel_rfl
theorem p5_30_6 : pj (regOf Try.f5 30) 6 = some (some 118, .load 3 (.tmp 117), 3, some (2, true)) := by kernel_rfl
theorem p5_30_7 : pj (regOf Try.f5 30) 7 = some (some 119, .call { callee := .value (.func 20), args := #[.tmp 116, .tmp 118], argTypes := #[47, 3] }, 35, some (2, true)) := by kernel_rfl
theorem p5_30_8 : pj (regOf Try.f5 30) 8 = some (some 120, .call { callee := .value (.func 15), args := #[.tmp 115, .tmp 119], argTypes := #[35, 35] }, 4, some (2, true)) := by kernel_rfl
theorem p5_30_9 : pj (regOf Try.f5 30) 9 = some (some 121, .pick (.tmp 114) (.tmp 120) (.const (.bool false)), 4, none) := by kernel_rfl
theorem p5_30_10 : pj (regOf Try.f5 30) 10 = some (some 7, .assign (.tmp 121), 4, none) := by kernel_rfl
theorem p5_9_0 : pj (regOf Try.f5 9) 0 = some (some 34, .move (.tmp 3), 24, none) := by kernel_rfl
theorem p5_9_1 : pj (regOf Try.f5 9) 1 = some (some 35, .call { callee := .value (.func 12), args := #[.tmp 34], argTypes := #[24] }, 24, none) := by kernel_rfl
theorem cl12 : callable Try.f12 = true := by kernel_rfl
theorem p5_9_2 : pj (regOf Try.f5 9) 2 = some (some 11, .assign (.tmp 35), 24, none) := by kernel_rfl
theorem p5_10_0 : pj (regOf Try.f5 10) 0 = some (some 36, .move (.tmp 11), 24, none) := by kernel_rfl
theorem p5_10_1 : pj (regOf Try.f5 10) 1 = some (some 37, .binOp .eql 24 (.tmp 36) (.const (.pointer none)) 24, 4, none) := by kernel_rfl
theorem tP24 : Try.prog.underlying 24 = some (.pointer (Try.prog.pointee 24)) := by kernel_rfl
theorem p5_12_0 : pj (regOf Try.f5 12) 0 = some (some 38, .move (.tmp 3), 24, none) := by kernel_rfl
theorem p5_12_1 : pj (regOf Try.f5 12) 1 = some (some 39, .call { callee := .value (.func 8), args := #[.tmp 38, .const (.int .i64 0), .const (.int .i64 1)], argTypes := #[24, 3, 3] }, 30, none) := by kernel_rfl
theorem p5_13_0 : pj (regOf Try.f5 13) 0 = some (some 40, .move (.tmp 3), 24, none) := by kernel_rfl
theorem p5_13_1 : pj (regOf Try.f5 13) 1 = some (some 41, .call { callee := .value (.func 10), args := #[.tmp 40], argTypes := #[24] }, 35, none) := by kernel_rfl
theorem p5_14_0 : pj (regOf Try.f5 14) 0 = some (some 42, .move (.tmp 11), 24, none) := by kernel_rfl
theorem p5_14_1 : pj (regOf Try.f5 14) 1 = some (some 3, .assign (.tmp 42), 24, none) := by kernel_rfl
theorem p5_33_0 : pj (regOf Try.f5 33) 0 = some (some 132, .call { callee := .value (.func 11), args := #[], argTypes := #[] }, 4, none) := by kernel_rfl
theorem cl11 : callable Try.f11 = true := by kernel_rfl
theorem p5_33_1 : pj (regOf Try.f5 33) 1 = some (some 2, .assign (.tmp 132), 4, none) := by kernel_rfl
set_option maxHeartbeats 4000000 in
theorem walk (a0 : Option Addr) (cap0 : Nat) (z0 : List (Int × Int × Int)) (w : World) (w0 : Kd.C (Kd.pair (Kd.int .i64) (Kd.pair (Kd.int .i64) (Kd.int .i64))) w a0 z0.length z0) (m0 : z0.length ≤ cap0) (o0 : (z0.length ≤ maxLen ∧ ∀ x0 ∈ z0, ((Lit.int .i64 x0.1).wf = true ∧ ((Lit.int .i64 x0.2.1).wf = true ∧ ((Lit.int .i64 x0.2.2).wf = true))))) (y0 : z0.length * Try.prog.bytesOf 33 ≤ 140737488351232) (c0 : cap0 ≤ maxLen ∧ (a0 = none → cap0 = 0)) :
    Calls Try.prog 5 #[.slice a0 z0.length cap0] w fun e w' => e = .returned (.bool true) ∧ Below w.heap.size w w' := by
  have K_0 := Kp.refl w (fun _ => False)
  have Fz1 := w0
  refine enter (args := [Value.slice a0 z0.length cap0]) (n := 133) Try.func5 body5 rfl rfl rfl ?_
  intro a hE
  refine c_reg R5_0_l ?_
  refine q0 p5_0_0 hE (st_assign rfl) ?_
  clear hE a; intro a hE
  refine p_nil ?_
  refine x_norm ?_
  refine c_reg R5_1_l ?_
  refine q0 p5_1_0 hE (st_build (xs := []) (vs := []) (cs := #[Value.int .i64 0, Value.map none]) rfl (by kernel_rfl)) ?_
  clear hE a; intro a hE
  refine p_cons (s_box p5_1_1 hE wn_none rfl rfl ?_)
  clear hE a; intro g1 w2 z3 B_g1 hk a hE
  replace B_g1 : w2.heap[g1]? = some (.cells #[Value.int .i64 0, Value.map none] 29 (0, 0)) := B_g1
  have z_0_g1 := Nat.le_trans K_0.kept.1 z3
  replace K_0 := K_0.then_ hk (fun _ h => h.elim)
  clear hk
  refine q0 p5_1_2 hE (st_assign rfl) ?_
  clear hE a; intro a hE
  refine p_nil ?_
  refine x_norm ?_
  refine c_reg R5_2_l ?_
  refine q0 p5_2_0 hE (st_build (xs := []) (vs := []) (cs := #[Value.int .i64 0, Value.slice none 0 0]) rfl (by kernel_rfl)) ?_
  clear hE a; intro a hE
  refine p_cons (s_box p5_2_1 hE wn_none rfl rfl ?_)
  clear hE a; intro g4 w5 z6 B_g4 hk a hE
  replace B_g4 : w5.heap[g4]? = some (.cells #[Value.int .i64 0, Value.slice none 0 0] 50 (0, 0)) := B_g4
  have n_g1_g4 : g1 ≠ g4 := ne_new B_g1 z6
  have z_0_g4 := Nat.le_trans K_0.kept.1 z6
  replace B_g1 := kp_blk B_g1 hk (fun h => h)
  replace K_0 := K_0.then_ hk (fun _ h => h.elim)
  clear hk
  refine q0 p5_2_2 hE (st_assign rfl) ?_
  clear hE a; intro a hE
  refine p_nil ?_
  refine x_norm ?_
  refine wp_seq ?_
  refine c_reg R5_3_l ?_
  refine q0 p5_3_0 hE (st_assign rfl) ?_
  clear hE a; intro a hE
  refine p_nil ?_
  refine x_norm ?_
  refine wp_block ?_
  have O_W : Wm w5 none [] := rfl
  have Nb_W_g1 : ¬ OB (mA none) g1 := ob_nil
  have Nb_W_g4 : ¬ OB (mA none) g4 := ob_nil
  have Z_0_W : ∀ k, OB (mA none) k → (fun _ => False) k ∨ w.heap.size ≤ k := fun k h => absurd h ob_nil
  have O_D : Rv.RdV w5 none 0 2 (flT []) := Rv.rdv_nil _ 2
  have hc_D : (([] : LW).length ≤ 0 ∧ ((none : Option Addr) = none → 0 = 0)) := ⟨Nat.le_refl _, fun _ => rfl⟩
  have NN_D_W : ∀ k, OB none k → ¬ OB (mA none) k := fun k h => absurd h ob_nil
  have NN_W_D : ∀ k, OB (mA none) k → ¬ OB none k := fun k h => absurd h ob_nil
  have Nb_D_g1 : ¬ OB none g1 := ob_nil
  have Nb_D_g4 : ¬ OB none g4 := ob_nil
  refine c_loop (α := Nat) (fun i a W => ∃ (mb_W : Option Nat), ∃ (A_D : Option Addr) (c_D : Nat) (n_D : Nat), ∃ (gX : Nat), ∃ (nw : Int), ∃ (l9 : LW), ∃ (L9 : LW), En 133 a [(0, Value.slice a0 z0.length cap0), (4, Value.pointer (some ⟨g4, 0, none⟩)), (5, Value.int .i64 (i : Int)), (3, Value.pointer (some ⟨gX, 0, none⟩))] ∧ RelW l9 L9 ∧ (0 ≤ nw ∧ nw ≤ (i : Int) * 1099511627776) ∧ l9.length ≤ i ∧ n_D = L9.length ∧ (L9.length ≤ c_D ∧ (A_D = none → c_D = 0)) ∧ i ≤ z0.length ∧ W.heap[g4]? = some (.cells #[Value.int .i64 nw, Value.slice A_D n_D c_D] 50 (0, 0)) ∧ W.heap[gX]? = some (.cells #[Value.int .i64 nw, Value.map mb_W] 29 (0, 0)) ∧ w.heap.size ≤ gX ∧ g4 ≠ gX ∧ Wm W mb_W l9 ∧ ¬ OB (mA mb_W) g4 ∧ ¬ OB (mA mb_W) gX ∧ (∀ k, OB (mA mb_W) k → (fun _ => False) k ∨ w.heap.size ≤ k) ∧ (∀ k, OB (mA mb_W) k → ¬ OB A_D k) ∧ Rv.RdV W A_D n_D 2 (flT L9) ∧ ¬ OB A_D g4 ∧ ¬ OB A_D gX ∧ (∀ k, OB A_D k → ¬ OB (mA mb_W) k) ∧ Kp w W (fun _ => False)) (fun i => z0.length - i) (0) ?_ ?_
  ·
    exact ⟨none, none, 0, 0, g1, 0, [], [], En.sub hE ⟨rfl, rfl, rfl, rfl, trivial⟩, rw_nil, ⟨by decide, by decide⟩, Nat.le_refl _, rfl, hc_D, Nat.zero_le _, B_g4, B_g1, z_0_g1, (Ne.symm n_g1_g4), O_W, Nb_W_g4, Nb_W_g1, Z_0_W, NN_W_D, O_D, Nb_D_g4, Nb_D_g1, NN_D_W, K_0⟩
  ·
    clear hE a
    rintro i a w7 ⟨mb_W, A_D, c_D, n_D, gX, nw, l9, L9, hE, hrel, hnw, hln, hnD, hc_D, hi9, B_g4, B_gX, z_0_gX, n_g4_gX, O_W, Nb_W_g4, Nb_W_gX, Z_0_W, NN_W_D, O_D, Nb_D_g4, Nb_D_gX, NN_D_W, K_0⟩
    refine wp_seq ?_
    subst hnD
    rcases Decidable.em ((i : Int) < (z0.length : Int)) with hI1 | hI1
    ·
      rcases Decidable.em ((i : Int) < 60) with hI2 | hI2
      ·
        refine c_reg R5_4_l ?_
        refine q0 p5_4_0 hE (st_move rfl) ?_
        clear hE a; intro a hE
        refine q0 p5_4_1 hE (st_move rfl) ?_
        clear hE a; intro a hE
        refine q0 p5_4_2 hE (st_len Try.underlying22 rfl) ?_
        clear hE a; intro a hE
        refine q0 p5_4_3 hE (st_lss (b := true) rfl rfl (decide_eq_true hI1)) ?_
        clear hE a; intro a hE
        refine q0 p5_4_4 hE (st_move rfl) ?_
        clear hE a; intro a hE
        refine p_cons (s_still p5_4_5 hE (wn_some g5_4_4 rfl rfl) rfl (st_move rfl) ?_)
        clear hE a; intro a hE
        refine p_cons (s_still p5_4_6 hE (wn_some g5_4_4 rfl rfl) rfl (st_lss (b := true) rfl rfl (decide_eq_true hI2)) ?_)
        clear hE a; intro a hE
        refine q0 p5_4_7 hE (st_pick rfl rfl) ?_
        clear hE a; intro a hE
        refine p_nil ?_
        refine x_norm ?_
        refine c_cond (t := true) hE rfl ?_
        refine wp_skip ?_
        refine x_norm ?_
        refine wp_seq ?_
        refine wp_block ?_
        refine c_reg R5_6_l ?_
        obtain ⟨hAe, cce, hKe, hce⟩ := C_elem (i := i) Fz1 zA (show i < z0.length by omega)
        obtain ⟨⟨xk, xs, xn⟩, hxe⟩ : ∃ x, List.getD z0 i zA = x := ⟨_, rfl⟩
        rw [hxe] at hKe
        obtain rfl := act_open hKe
        have hLl := hrel.perm.length_eq
        refine q0 p5_6_0 hE (st_move rfl) ?_
        clear hE a; intro a hE
        refine q0 p5_6_1 hE (st_move rfl) ?_
        clear hE a; intro a hE
        refine q0 p5_6_2 hE (st_indexAddrR (i := i) (s := 3) Try.underlying22 tS33 hAe rfl rfl (by omega)) ?_
        clear hE a; intro a hE
        refine q0 p5_6_3 hE (st_loadR (off := i * 3) (j := 0) (k := 3) (vs := [Value.int .i64 xk, Value.int .i64 xs, Value.int .i64 xn]) tA33 tS33 (fun j u h => cell_to K_0 (hce j u h)) rfl rfl (by omega) rfl) ?_
        clear hE a; intro a hE
        refine p_cons (s_alloc p5_6_4 hE wn_none rfl tZ33 ?_)
        clear hE a; intro g8 w9 z10 B_g8 hk a hE
        replace B_g8 : w9.heap[g8]? = some (.cells #[Value.int .i64 0, Value.int .i64 0, Value.int .i64 0] 33 (0, 0)) := B_g8
        have n_g4_g8 : g4 ≠ g8 := ne_new B_g4 z10
        have n_gX_g8 : gX ≠ g8 := ne_new B_gX z10
        have z_0_g8 := Nat.le_trans K_0.kept.1 z10
        have Nb_W_g8 : ¬ OB (mA mb_W) g8 := fun h => by have := (wm_ob O_W h).2; omega
        have Nb_D_g8 : ¬ OB A_D g8 := fun h => by have := (Rv.rdv_ob O_D h).2; omega
        replace B_g4 := kp_blk B_g4 hk (fun h => h)
        replace B_gX := kp_blk B_gX hk (fun h => h)
        replace O_W := wm_keep O_W hk (fun _ _ h => h)
        replace O_D := Rv.rdv_keep O_D hk (fun _ _ h => h)
        replace K_0 := K_0.then_ hk (fun _ h => h.elim)
        clear hk
        refine p_cons (s_store (off := 0) (k := 3) (cs' := #[Value.int .i64 xk, Value.int .i64 xs, Value.int .i64 xn]) p5_6_5 hE wn_none tS33 rfl rfl rfl rfl B_g8 (Nat.le_of_ble_eq_true rfl) rfl ?_)
        intro w11 B_g8' hk
        replace B_g4 := kp_blk B_g4 hk n_g4_g8
        replace B_gX := kp_blk B_gX hk n_gX_g8
        replace O_W := wm_keep O_W hk (fun k hk2 h2 => Nb_W_g8 (by rw [show k = g8 from h2] at hk2; exact hk2))
        replace O_D := Rv.rdv_keep O_D hk (fun k hk2 h2 => Nb_D_g8 (by rw [show k = g8 from h2] at hk2; exact hk2))
        replace K_0 := K_0.then_ hk (fun k h => by rw [show k = g8 from h]; exact Or.inr z_0_g8)
        replace B_g8 := B_g8'
        clear hk
        refine p_nil ?_
        refine x_norm ?_
        refine c_reg R5_7_l ?_
        refine q0 p5_7_0 hE (st_assign rfl) ?_
        clear hE a; intro a hE
        refine p_nil ?_
        refine x_norm ?_
        refine wp_seq ?_
        refine c_reg R5_8_l ?_
        refine q0 p5_8_0 hE (st_fieldAddr Try.underlying33 rfl tS3 rfl rfl) ?_
        clear hE a; intro a hE
        refine q0 p5_8_1 hE (st_load1 tA3 rfl ((blk_cell B_g8 0).trans rfl)) ?_
        clear hE a; intro a hE
        refine q0 p5_8_2 hE (st_conv (z := (xk % 18446744073709551616)) (by kernel_rfl) Try.underlying23 rfl (IntKind.wrap_u64 _)) ?_
        clear hE a; intro a hE
        refine q0 p5_8_3 hE (st_rem (z := xk % 18446744073709551616 % 5) rfl rfl (by omega) (Int.tmod_eq_emod_of_nonneg (by omega))) ?_
        clear hE a; intro a hE
        refine p_nil ?_
        refine x_norm ?_
        refine wp_block ?_
        rcases Decidable.em ((xk % 18446744073709551616 % 5) = 0) with hKA | hKA
        ·
          refine c_reg R5_15_l ?_
          refine q0 p5_15_0 hE (st_eql (b := true) rfl rfl (decide_eq_true hKA)) ?_
          clear hE a; intro a hE
          refine q0 p5_15_1 hE (st_assign rfl) ?_
          clear hE a; intro a hE
          refine p_nil ?_
          refine x_norm ?_
          refine c_cond (t := true) hE rfl ?_
          refine c_draw (S := fun W => W.heap[g8]? = some (.cells #[Value.int .i64 xk, Value.int .i64 xs, Value.int .i64 xn] 33 (0, 0)) ∧ True) rfl rfl (listed := #[false, false, false, false, false, false, false, false, false, false, false, false, false, false]) rfl ?_
          intro w12 hh hk
          replace B_g4 := kp_blk B_g4 hk (fun h => h)
          replace B_gX := kp_blk B_gX hk (fun h => h)
          replace B_g8 := kp_blk B_g8 hk (fun h => h)
          replace O_W := wm_keep O_W hk (fun _ _ h => h)
          replace O_D := Rv.rdv_keep O_D hk (fun _ _ h => h)
          replace K_0 := K_0.then_ hk (fun _ h => h.elim)
          clear hh hk
          refine Rv.dq (v := Value.pointer (some ⟨gX, 0, none⟩)) p5_16_0 ns5_16 hE wn_none ⟨B_g8, trivial⟩ (fun W hS => (st_move rfl)) ?_; clear hE a; intro a hE
          refine Rv.dq (v := Value.pointer (some ⟨g8, 1, none⟩)) p5_16_1 ns5_16 hE wn_none ⟨B_g8, trivial⟩ (fun W hS => (st_fieldAddr Try.underlying33 rfl tS3 rfl rfl)) ?_; clear hE a; intro a hE
          refine Rv.dq (v := Value.int .i64 xs) p5_16_2 ns5_16 hE wn_none ⟨B_g8, trivial⟩ (fun W hS => (st_load1 tA3 rfl ((blk_cell hS.1 1).trans rfl))) ?_; clear hE a; intro a hE
          refine Rv.dq (v := Value.pointer (some ⟨g8, 2, none⟩)) p5_16_3 ns5_16 hE wn_none ⟨B_g8, trivial⟩ (fun W hS => (st_fieldAddr Try.underlying33 rfl tS3 rfl rfl)) ?_; clear hE a; intro a hE
          refine Rv.dq (v := Value.int .i64 xn) p5_16_4 ns5_16 hE wn_none ⟨B_g8, trivial⟩ (fun W hS => (st_load1 tA3 rfl ((blk_cell hS.1 2).trans rfl))) ?_; clear hE a; intro a hE
          refine Rv.dq (v := Value.pointer (some ⟨g4, 0, none⟩)) p5_16_6 ns5_16 hE wn_none ⟨B_g8, trivial⟩ (fun W hS => (st_move rfl)) ?_; clear hE a; intro a hE
          refine Rv.dq (v := Value.pointer (some ⟨g8, 1, none⟩)) p5_16_7 ns5_16 hE wn_none ⟨B_g8, trivial⟩ (fun W hS => (st_fieldAddr Try.underlying33 rfl tS3 rfl rfl)) ?_; clear hE a; intro a hE
          refine Rv.dq (v := Value.int .i64 xs) p5_16_8 ns5_16 hE wn_none ⟨B_g8, trivial⟩ (fun W hS => (st_load1 tA3 rfl ((blk_cell hS.1 1).trans rfl))) ?_; clear hE a; intro a hE
          refine Rv.dq (v := Value.pointer (some ⟨g8, 2, none⟩)) p5_16_9 ns5_16 hE wn_none ⟨B_g8, trivial⟩ (fun W hS => (st_fieldAddr Try.underlying33 rfl tS3 rfl rfl)) ?_; clear hE a; intro a hE
          refine Rv.dq (v := Value.int .i64 xn) p5_16_10 ns5_16 hE wn_none ⟨B_g8, trivial⟩ (fun W hS => (st_load1 tA3 rfl ((blk_cell hS.1 2).trans rfl))) ?_; clear hE a; intro a hE
          have hnb_g4 := blk_lt B_g4
          have hnb_gX := blk_lt B_gX
          have hnb_g8 := blk_lt B_g8
          have hno_W := fun k (h : OB (mA mb_W) k) => (wm_ob O_W h).2
          have hno_D := fun k (h : OB A_D k) => (Rv.rdv_ob O_D h).2
          have hkz9 := K_0.kept.1
          refine d_one (by kernel_rfl) rfl (s_call (xs := [Operand.tmp 45, Operand.tmp 47, Operand.tmp 49]) (args := [Value.pointer (some ⟨gX, 0, none⟩), Value.int .i64 xs, Value.int .i64 xn]) p5_16_5 hE wn_none rfl rfl Try.func8 cl8 (set_u gX nw mb_W l9 xs xn _ ⟨by omega, by omega⟩ B_gX O_W Nb_W_gX) ?_)
          rintro e w14 ⟨mbx13, rfl, B_gX', O_W', hg9, hk⟩
          replace B_g4 := kp_blk B_g4 hk (fun h => h.elim n_g4_gX Nb_W_g4)
          replace B_g8 := kp_blk B_g8 hk (fun h => h.elim (Ne.symm n_gX_g8) Nb_W_g8)
          replace O_D := Rv.rdv_keep O_D hk (fun k hk2 h2 => h2.elim (fun h2 => Nb_D_gX (by rw [show k = gX from h2] at hk2; exact hk2)) (fun h2 => NN_D_W k hk2 h2))
          replace K_0 := K_0.then_ hk (fun k h => h.elim (fun h => by rw [show k = gX from h]; exact Or.inr z_0_gX) (fun h => Z_0_W k h))
          replace B_gX := B_gX'
          replace O_W := O_W'
          replace Nb_W_g4 : ¬ OB (mA mbx13) g4 := fun h => (hg9 _ h).elim Nb_W_g4 (fun h2 => by have := hnb_g4; omega)
          replace Nb_W_gX : ¬ OB (mA mbx13) gX := fun h => (hg9 _ h).elim Nb_W_gX (fun h2 => by have := hnb_gX; omega)
          replace Nb_W_g8 : ¬ OB (mA mbx13) g8 := fun h => (hg9 _ h).elim Nb_W_g8 (fun h2 => by have := hnb_g8; omega)
          replace Z_0_W : ∀ k, OB (mA mbx13) k → (fun _ => False) k ∨ w.heap.size ≤ k := fun k h => (hg9 k h).elim (Z_0_W k) (fun h => .inr (Nat.le_trans hkz9 h))
          replace NN_W_D : ∀ k, OB (mA mbx13) k → ¬ OB A_D k := fun k h h2 => (hg9 _ h).elim (fun h3 => NN_W_D k h3 h2) (fun h3 => by have := hno_D k h2; omega)
          replace NN_D_W : ∀ k, OB A_D k → ¬ OB (mA mbx13) k := fun k h h2 => NN_W_D k h2 h
          have hsw := set_lenW l9 nw xs xn
          refine ⟨_, rfl, ?_⟩
          clear hE a; intro a hE
          refine ⟨⟨B_g8, trivial⟩, ?_⟩
          have hnb_g4 := blk_lt B_g4
          have hnb_gX := blk_lt B_gX
          have hnb_g8 := blk_lt B_g8
          have hno_W := fun k (h : OB (mA mbx13) k) => (wm_ob O_W h).2
          have hkz9 := K_0.kept.1
          refine d_one (by kernel_rfl) rfl (s_call (xs := [Operand.tmp 51, Operand.tmp 53, Operand.tmp 55]) (args := [Value.pointer (some ⟨g4, 0, none⟩), Value.int .i64 xs, Value.int .i64 xn]) p5_16_11 hE wn_none rfl rfl Try.func18 cl18 (rset_any g4 A_D c_D L9 nw xs xn ⟨by omega, by omega⟩ _ B_g4 O_D hc_D (by have := del_len L9 xs; omega) Nb_D_g4) ?_)
          rintro e w17 ⟨AD215, cD216, rfl, B_g4', O_D2, hc_D2, hg9, hk⟩
          replace B_gX := kp_blk B_gX hk (Ne.symm n_g4_gX)
          replace B_g8 := kp_blk B_g8 hk (Ne.symm n_g4_g8)
          replace O_W := wm_keep O_W hk (fun k hk2 h2 => Nb_W_g4 (by rw [show k = g4 from h2] at hk2; exact hk2))
          replace O_D := Rv.rdv_keep O_D hk (fun k hk2 h2 => Nb_D_g4 (by rw [show k = g4 from h2] at hk2; exact hk2))
          replace K_0 := K_0.then_ hk (fun k h => by rw [show k = g4 from h]; exact Or.inr z_0_g4)
          replace B_g4 := B_g4'
          have Nb_D2_g4 : ¬ OB AD215 g4 := fun h => (hg9 _ h).elim Nb_D_g4 (fun h2 => by have := hnb_g4; omega)
          have Nb_D2_gX : ¬ OB AD215 gX := fun h => (hg9 _ h).elim Nb_D_gX (fun h2 => by have := hnb_gX; omega)
          have Nb_D2_g8 : ¬ OB AD215 g8 := fun h => (hg9 _ h).elim Nb_D_g8 (fun h2 => by have := hnb_g8; omega)
          have NN_D2_W : ∀ k, OB AD215 k → ¬ OB (mA mbx13) k := fun k h h2 => (hg9 _ h).elim (fun h3 => NN_D_W k h3 h2) (fun h3 => by have := hno_W k h2; omega)
          have NN_W_D2 : ∀ k, OB (mA mbx13) k → ¬ OB AD215 k := fun k h h2 => NN_D2_W k h2 h
          have O_D := O_D2
          have hc_D := hc_D2
          have Nb_D_g4 := Nb_D2_g4
          have Nb_D_gX := Nb_D2_gX
          have Nb_D_g8 := Nb_D2_g8
          have NN_D_W := NN_D2_W
          have NN_W_D := NN_W_D2
          have hrel2 := hrel.set (now := nw) (x := xs) (n := xn) (by omega)
          have hsl := set_lenW l9 nw xs xn
          refine ⟨_, rfl, ?_⟩
          clear hE a; intro a hE
          refine ⟨⟨B_g8, trivial⟩, ?_⟩
          refine Rv.dq (v := Value.bool true) p5_16_12 ns5_16 hE wn_none ⟨B_g8, trivial⟩ (fun W hS => (st_eql (b := true) rfl rfl (by simp))) ?_; clear hE a; intro a hE
          refine Rv.dq (v := Value.bool true) p5_16_13 ns5_16 hE wn_none ⟨B_g8, trivial⟩ (fun W hS => (st_assign rfl)) ?_; clear hE a; intro a hE
          refine d_end (by kernel_rfl) ?_
          refine x_normB ?_
          refine x_norm ?_
          refine c_reg R5_31_l ?_
          refine q0 p5_31_0 hE (st_move rfl) ?_
          clear hE a; intro a hE
          refine q0 p5_31_1 hE (st_not rfl rfl) ?_
          clear hE a; intro a hE
          refine q0 p5_31_2 hE (st_move rfl) ?_
          clear hE a; intro a hE
          refine p_cons (s_still p5_31_3 hE (wn_some g5_31_2 rfl rfl) rfl (st_move rfl) ?_)
          clear hE a; intro a hE
          refine p_cons (s_still p5_31_4 hE (wn_some g5_31_2 rfl rfl) rfl (st_move rfl) ?_)
          clear hE a; intro a hE
          refine p_cons (s_still p5_31_5 hE (wn_some g5_31_2 rfl rfl) rfl (st_fieldAddr Try.underlying33 rfl tS3 rfl rfl) ?_)
          clear hE a; intro a hE
          refine p_cons (s_still p5_31_6 hE (wn_some g5_31_2 rfl rfl) rfl (st_load1 tA3 rfl ((blk_cell B_g8 1).trans rfl)) ?_)
          clear hE a; intro a hE
          refine p_cons (s_call (xs := [Operand.tmp 125, Operand.tmp 126, Operand.tmp 128]) (args := [Value.pointer (some ⟨gX, 0, none⟩), Value.pointer (some ⟨g4, 0, none⟩), Value.int .i64 xs]) p5_31_7 hE (wn_some g5_31_2 rfl rfl) rfl rfl Try.func21 cl21 (tells_any gX g4 mbx13 (setW l9 nw xs xn) (setR L9 nw xs xn) nw AD215 cD216 xs hrel2 (by have := hrel2.perm.length_eq; omega) _ B_gX O_W Nb_W_gX B_g4 O_D hc_D Nb_D_g4) ?_)
          rintro e w18 ⟨rfl, hk⟩
          replace B_g4 := kp_blk B_g4 hk (fun h => h)
          replace B_gX := kp_blk B_gX hk (fun h => h)
          replace B_g8 := kp_blk B_g8 hk (fun h => h)
          replace O_W := wm_keep O_W hk (fun _ _ h => h)
          replace O_D := Rv.rdv_keep O_D hk (fun _ _ h => h)
          replace K_0 := K_0.then_ hk (fun _ h => h.elim)
          refine ⟨_, rfl, ?_⟩
          clear hE a; intro a hE
          refine p_cons (s_still p5_31_8 hE (wn_some g5_31_2 rfl rfl) rfl (st_not rfl rfl) ?_)
          clear hE a; intro a hE
          refine q0 p5_31_9 hE (st_pick rfl rfl) ?_
          clear hE a; intro a hE
          refine p_nil ?_
          refine x_norm ?_
          refine c_cond (t := false) hE rfl ?_
          refine wp_skip ?_
          refine x_normB ?_
          refine x_norm ?_
          refine c_regL R5_5_l ?_
          refine q0 p5_5_0 hE (st_move rfl) ?_
          clear hE a; intro a hE
          refine q0 p5_5_1 hE (st_add (z := (i : Int) + 1) rfl rfl (wr_i64 _ (by omega) (by omega))) ?_
          clear hE a; intro a hE
          refine q0 p5_5_2 hE (st_assign rfl) ?_
          clear hE a; intro a hE
          refine p_nil ?_
          refine x_norm ?_
          exact ⟨i + 1, by omega, mbx13, AD215, cD216, (setR L9 nw xs xn).length, gX, nw, (setW l9 nw xs xn), (setR L9 nw xs xn), En.sub hE ⟨rfl, rfl, rfl, rfl, trivial⟩, hrel2, (by omega), by omega, rfl, hc_D, by omega, B_g4, B_gX, z_0_gX, n_g4_gX, O_W, Nb_W_g4, Nb_W_gX, Z_0_W, NN_W_D, O_D, Nb_D_g4, Nb_D_gX, NN_D_W, K_0⟩
        ·
          refine c_reg R5_15_l ?_
          refine q0 p5_15_0 hE (st_eql (b := false) rfl rfl (decide_eq_false hKA)) ?_
          clear hE a; intro a hE
          refine q0 p5_15_1 hE (st_assign rfl) ?_
          clear hE a; intro a hE
          refine p_nil ?_
          refine x_norm ?_
          refine c_cond (t := false) hE rfl ?_
          rcases Decidable.em ((xk % 18446744073709551616 % 5) = 1) with hKB | hKB
          ·
            refine c_reg R5_17_l ?_
            refine q0 p5_17_0 hE (st_eql (b := true) rfl rfl (decide_eq_true hKB)) ?_
            clear hE a; intro a hE
            refine q0 p5_17_1 hE (st_assign rfl) ?_
            clear hE a; intro a hE
            refine p_nil ?_
            refine x_norm ?_
            refine c_cond (t := true) hE rfl ?_
            refine c_reg R5_18_l ?_
            refine q0 p5_18_0 hE (st_assign rfl) ?_
            clear hE a; intro a hE
            refine p_nil ?_
            refine x_norm ?_
            refine wp_seq ?_
            rcases Decidable.em ((getI L9 xs).isSome = true) with hC1 | hC1
            ·
              have hC1e : (getI L9 xs).isSome = true := hC1
              refine c_reg R5_19_l ?_
              refine q0 p5_19_0 hE (st_move rfl) ?_
              clear hE a; intro a hE
              refine q0 p5_19_1 hE (st_fieldAddr Try.underlying33 rfl tS3 rfl rfl) ?_
              clear hE a; intro a hE
              refine q0 p5_19_2 hE (st_load1 tA3 rfl ((blk_cell B_g8 1).trans rfl)) ?_
              clear hE a; intro a hE
              have hnb_g4 := blk_lt B_g4
              have hnb_gX := blk_lt B_gX
              have hnb_g8 := blk_lt B_g8
              have hno_W := fun k (h : OB (mA mb_W) k) => (wm_ob O_W h).2
              have hkz9 := K_0.kept.1
              have hct := rcan_any g4 A_D c_D L9 nw xs w11 B_g4 O_D hc_D (by have := del_len L9 xs; omega) Nb_D_g4
              rw [hC1e] at hct
              refine p_cons (s_call (xs := [Operand.tmp 60, Operand.tmp 62]) (args := [Value.pointer (some ⟨g4, 0, none⟩), Value.int .i64 xs]) p5_19_3 hE wn_none rfl rfl Try.func19 cl19 (hct) ?_)
              rintro e w21 ⟨AD219, cD220, rfl, B_g4', O_D2, hc_D2, hg9, hk⟩
              replace B_gX := kp_blk B_gX hk (Ne.symm n_g4_gX)
              replace B_g8 := kp_blk B_g8 hk (Ne.symm n_g4_g8)
              replace O_W := wm_keep O_W hk (fun k hk2 h2 => Nb_W_g4 (by rw [show k = g4 from h2] at hk2; exact hk2))
              replace O_D := Rv.rdv_keep O_D hk (fun k hk2 h2 => Nb_D_g4 (by rw [show k = g4 from h2] at hk2; exact hk2))
              replace K_0 := K_0.then_ hk (fun k h => by rw [show k = g4 from h]; exact Or.inr z_0_g4)
              replace B_g4 := B_g4'
              have Nb_D2_g4 : ¬ OB AD219 g4 := fun h => (hg9 _ h).elim Nb_D_g4 (fun h2 => by have := hnb_g4; omega)
              have Nb_D2_gX : ¬ OB AD219 gX := fun h => (hg9 _ h).elim Nb_D_gX (fun h2 => by have := hnb_gX; omega)
              have Nb_D2_g8 : ¬ OB AD219 g8 := fun h => (hg9 _ h).elim Nb_D_g8 (fun h2 => by have := hnb_g8; omega)
              have NN_D2_W : ∀ k, OB AD219 k → ¬ OB (mA mb_W) k := fun k h h2 => (hg9 _ h).elim (fun h3 => NN_D_W k h3 h2) (fun h3 => by have := hno_W k h2; omega)
              have NN_W_D2 : ∀ k, OB (mA mb_W) k → ¬ OB AD219 k := fun k h h2 => NN_D2_W k h2 h
              have O_D := O_D2
              have hc_D := hc_D2
              have Nb_D_g4 := Nb_D2_g4
              have Nb_D_gX := Nb_D2_gX
              have Nb_D_g8 := Nb_D2_g8
              have NN_D_W := NN_D2_W
              have NN_W_D := NN_W_D2
              refine ⟨_, rfl, ?_⟩
              clear hE a; intro a hE
              refine p_nil ?_
              refine x_norm ?_
              refine c_cond (t := true) hE rfl ?_
              refine c_regL R5_20_l ?_
              refine q0 p5_20_0 hE (st_move rfl) ?_
              clear hE a; intro a hE
              refine q0 p5_20_1 hE (st_add (z := 1) rfl rfl (by decide)) ?_
              clear hE a; intro a hE
              refine q0 p5_20_2 hE (st_assign rfl) ?_
              clear hE a; intro a hE
              refine p_nil ?_
              refine x_norm ?_
              refine wp_seq ?_
              rcases Decidable.em ((getI (delI L9 xs) xn).isSome = true) with hC2 | hC2
              ·
                have hC2e : (getI (delI L9 xs) xn).isSome = true := hC2
                refine c_reg R5_21_l ?_
                refine q0 p5_21_0 hE (st_move rfl) ?_
                clear hE a; intro a hE
                refine q0 p5_21_1 hE (st_fieldAddr Try.underlying33 rfl tS3 rfl rfl) ?_
                clear hE a; intro a hE
                refine q0 p5_21_2 hE (st_load1 tA3 rfl ((blk_cell B_g8 2).trans rfl)) ?_
                clear hE a; intro a hE
                have hnb_g4 := blk_lt B_g4
                have hnb_gX := blk_lt B_gX
                have hnb_g8 := blk_lt B_g8
                have hno_W := fun k (h : OB (mA mb_W) k) => (wm_ob O_W h).2
                have hkz9 := K_0.kept.1
                have hct := rcan_any g4 AD219 cD220 (delI L9 xs) nw xn w21 B_g4 O_D hc_D (by have := del_len L9 xs; omega) Nb_D_g4
                rw [hC2e] at hct
                refine p_cons (s_call (xs := [Operand.tmp 66, Operand.tmp 68]) (args := [Value.pointer (some ⟨g4, 0, none⟩), Value.int .i64 xn]) p5_21_3 hE wn_none rfl rfl Try.func19 cl19 (hct) ?_)
                rintro e w24 ⟨AD222, cD223, rfl, B_g4', O_D2, hc_D2, hg9, hk⟩
                replace B_gX := kp_blk B_gX hk (Ne.symm n_g4_gX)
                replace B_g8 := kp_blk B_g8 hk (Ne.symm n_g4_g8)
                replace O_W := wm_keep O_W hk (fun k hk2 h2 => Nb_W_g4 (by rw [show k = g4 from h2] at hk2; exact hk2))
                replace O_D := Rv.rdv_keep O_D hk (fun k hk2 h2 => Nb_D_g4 (by rw [show k = g4 from h2] at hk2; exact hk2))
                replace K_0 := K_0.then_ hk (fun k h => by rw [show k = g4 from h]; exact Or.inr z_0_g4)
                replace B_g4 := B_g4'
                have Nb_D2_g4 : ¬ OB AD222 g4 := fun h => (hg9 _ h).elim Nb_D_g4 (fun h2 => by have := hnb_g4; omega)
                have Nb_D2_gX : ¬ OB AD222 gX := fun h => (hg9 _ h).elim Nb_D_gX (fun h2 => by have := hnb_gX; omega)
                have Nb_D2_g8 : ¬ OB AD222 g8 := fun h => (hg9 _ h).elim Nb_D_g8 (fun h2 => by have := hnb_g8; omega)
                have NN_D2_W : ∀ k, OB AD222 k → ¬ OB (mA mb_W) k := fun k h h2 => (hg9 _ h).elim (fun h3 => NN_D_W k h3 h2) (fun h3 => by have := hno_W k h2; omega)
                have NN_W_D2 : ∀ k, OB (mA mb_W) k → ¬ OB AD222 k := fun k h h2 => NN_D2_W k h2 h
                have O_D := O_D2
                have hc_D := hc_D2
                have Nb_D_g4 := Nb_D2_g4
                have Nb_D_gX := Nb_D2_gX
                have Nb_D_g8 := Nb_D2_g8
                have NN_D_W := NN_D2_W
                have NN_W_D := NN_W_D2
                refine ⟨_, rfl, ?_⟩
                clear hE a; intro a hE
                refine p_nil ?_
                refine x_norm ?_
                refine c_cond (t := true) hE rfl ?_
                refine c_regL R5_22_l ?_
                refine q0 p5_22_0 hE (st_move rfl) ?_
                clear hE a; intro a hE
                refine q0 p5_22_1 hE (st_add (z := 2) rfl rfl (by decide)) ?_
                clear hE a; intro a hE
                refine q0 p5_22_2 hE (st_assign rfl) ?_
                clear hE a; intro a hE
                refine p_nil ?_
                refine x_norm ?_
                refine c_regL R5_23_l ?_
                refine q0 p5_23_0 hE (st_move rfl) ?_
                clear hE a; intro a hE
                refine q0 p5_23_1 hE (st_fieldAddr Try.underlying33 rfl tS3 rfl rfl) ?_
                clear hE a; intro a hE
                refine q0 p5_23_2 hE (st_load1 tA3 rfl ((blk_cell B_g8 1).trans rfl)) ?_
                clear hE a; intro a hE
                refine q0 p5_23_3 hE (st_fieldAddr Try.underlying33 rfl tS3 rfl rfl) ?_
                clear hE a; intro a hE
                refine q0 p5_23_4 hE (st_load1 tA3 rfl ((blk_cell B_g8 2).trans rfl)) ?_
                clear hE a; intro a hE
                refine p_cons (s_row (xs := [(0, Operand.tmp 74), (1, Operand.tmp 76)]) (vs := [(0, Value.int .i64 xs), (1, Value.int .i64 xn)]) (cs := #[Value.int .i64 xs, Value.int .i64 xn]) p5_23_5 hE wn_none rfl Try.underlying35 rfl (by kernel_rfl) ?_)
                clear hE a; intro g25 w26 z27 B_g25 hk a hE
                have n_g4_g25 : g4 ≠ g25 := ne_new B_g4 z27
                have n_gX_g25 : gX ≠ g25 := ne_new B_gX z27
                have n_g8_g25 : g8 ≠ g25 := ne_new B_g8 z27
                have z_0_g25 := Nat.le_trans K_0.kept.1 z27
                have Nb_W_g25 : ¬ OB (mA mb_W) g25 := fun h => by have := (wm_ob O_W h).2; omega
                have Nb_D_g25 : ¬ OB AD222 g25 := fun h => by have := (Rv.rdv_ob O_D h).2; omega
                replace B_g4 := kp_blk B_g4 hk (fun h => h)
                replace B_gX := kp_blk B_gX hk (fun h => h)
                replace B_g8 := kp_blk B_g8 hk (fun h => h)
                replace O_W := wm_keep O_W hk (fun _ _ h => h)
                replace O_D := Rv.rdv_keep O_D hk (fun _ _ h => h)
                replace K_0 := K_0.then_ hk (fun _ h => h.elim)
                clear hk
                have hk1 := del_cnt1 ((congrArg Option.isSome (get_permA hrel.perm hrel.ndl xs)).trans hC1e)
                have hk2 := del_cnt1 ((congrArg Option.isSome (get_permA (hrel.del xs).perm (hrel.del xs).ndl xn)).trans hC2e)
                refine p_cons (s_call (xs := [Operand.tmp 72, Operand.tmp 77]) (args := [Value.pointer (some ⟨gX, 0, none⟩), Value.slice (some ⟨g25, 0, none⟩) 2 2]) p5_23_6 hE wn_none rfl rfl Try.func9 cl9 (cancel_u gX nw mb_W l9 g25 xs xn _ (by omega) B_g25 n_gX_g25 B_gX O_W Nb_W_gX) ?_)
                rintro e w28 ⟨rfl, O_W', hk⟩
                replace B_g4 := kp_blk B_g4 hk Nb_W_g4
                replace B_gX := kp_blk B_gX hk Nb_W_gX
                replace B_g8 := kp_blk B_g8 hk Nb_W_g8
                replace B_g25 := kp_blk B_g25 hk Nb_W_g25
                replace O_D := Rv.rdv_keep O_D hk NN_D_W
                replace K_0 := K_0.then_ hk Z_0_W
                replace O_W := O_W'
                have hrel2 := (hrel.del xs).del xn
                have hsl : (delI (delI l9 xs) xn).length ≤ l9.length + 1 := by omega
                refine ⟨_, rfl, ?_⟩
                clear hE a; intro a hE
                refine q0 p5_23_7 hE (st_move rfl) ?_
                clear hE a; intro a hE
                refine q0 p5_23_8 hE (st_eql (b := true) rfl rfl (decide_eq_true (by omega))) ?_
                clear hE a; intro a hE
                refine q0 p5_23_9 hE (st_assign rfl) ?_
                clear hE a; intro a hE
                refine p_nil ?_
                refine x_normB ?_
                refine x_norm ?_
                refine c_reg R5_31_l ?_
                refine q0 p5_31_0 hE (st_move rfl) ?_
                clear hE a; intro a hE
                refine q0 p5_31_1 hE (st_not rfl rfl) ?_
                clear hE a; intro a hE
                refine q0 p5_31_2 hE (st_move rfl) ?_
                clear hE a; intro a hE
                refine p_cons (s_still p5_31_3 hE (wn_some g5_31_2 rfl rfl) rfl (st_move rfl) ?_)
                clear hE a; intro a hE
                refine p_cons (s_still p5_31_4 hE (wn_some g5_31_2 rfl rfl) rfl (st_move rfl) ?_)
                clear hE a; intro a hE
                refine p_cons (s_still p5_31_5 hE (wn_some g5_31_2 rfl rfl) rfl (st_fieldAddr Try.underlying33 rfl tS3 rfl rfl) ?_)
                clear hE a; intro a hE
                refine p_cons (s_still p5_31_6 hE (wn_some g5_31_2 rfl rfl) rfl (st_load1 tA3 rfl ((blk_cell B_g8 1).trans rfl)) ?_)
                clear hE a; intro a hE
                refine p_cons (s_call (xs := [Operand.tmp 125, Operand.tmp 126, Operand.tmp 128]) (args := [Value.pointer (some ⟨gX, 0, none⟩), Value.pointer (some ⟨g4, 0, none⟩), Value.int .i64 xs]) p5_31_7 hE (wn_some g5_31_2 rfl rfl) rfl rfl Try.func21 cl21 (tells_any gX g4 mb_W (delI (delI l9 xs) xn) (delI (delI L9 xs) xn) nw AD222 cD223 xs hrel2 (by have := hrel2.perm.length_eq; omega) _ B_gX O_W Nb_W_gX B_g4 O_D hc_D Nb_D_g4) ?_)
                rintro e w29 ⟨rfl, hk⟩
                replace B_g4 := kp_blk B_g4 hk (fun h => h)
                replace B_gX := kp_blk B_gX hk (fun h => h)
                replace B_g8 := kp_blk B_g8 hk (fun h => h)
                replace B_g25 := kp_blk B_g25 hk (fun h => h)
                replace O_W := wm_keep O_W hk (fun _ _ h => h)
                replace O_D := Rv.rdv_keep O_D hk (fun _ _ h => h)
                replace K_0 := K_0.then_ hk (fun _ h => h.elim)
                refine ⟨_, rfl, ?_⟩
                clear hE a; intro a hE
                refine p_cons (s_still p5_31_8 hE (wn_some g5_31_2 rfl rfl) rfl (st_not rfl rfl) ?_)
                clear hE a; intro a hE
                refine q0 p5_31_9 hE (st_pick rfl rfl) ?_
                clear hE a; intro a hE
                refine p_nil ?_
                refine x_norm ?_
                refine c_cond (t := false) hE rfl ?_
                refine wp_skip ?_
                refine x_normB ?_
                refine x_norm ?_
                refine c_regL R5_5_l ?_
                refine q0 p5_5_0 hE (st_move rfl) ?_
                clear hE a; intro a hE
                refine q0 p5_5_1 hE (st_add (z := (i : Int) + 1) rfl rfl (wr_i64 _ (by omega) (by omega))) ?_
                clear hE a; intro a hE
                refine q0 p5_5_2 hE (st_assign rfl) ?_
                clear hE a; intro a hE
                refine p_nil ?_
                refine x_norm ?_
                exact ⟨i + 1, by omega, mb_W, AD222, cD223, (delI (delI L9 xs) xn).length, gX, nw, (delI (delI l9 xs) xn), (delI (delI L9 xs) xn), En.sub hE ⟨rfl, rfl, rfl, rfl, trivial⟩, hrel2, (by omega), by omega, rfl, hc_D, by omega, B_g4, B_gX, z_0_gX, n_g4_gX, O_W, Nb_W_g4, Nb_W_gX, Z_0_W, NN_W_D, O_D, Nb_D_g4, Nb_D_gX, NN_D_W, K_0⟩
              ·
                have hC2e : (getI (delI L9 xs) xn).isSome = false := by simpa using hC2
                refine c_reg R5_21_l ?_
                refine q0 p5_21_0 hE (st_move rfl) ?_
                clear hE a; intro a hE
                refine q0 p5_21_1 hE (st_fieldAddr Try.underlying33 rfl tS3 rfl rfl) ?_
                clear hE a; intro a hE
                refine q0 p5_21_2 hE (st_load1 tA3 rfl ((blk_cell B_g8 2).trans rfl)) ?_
                clear hE a; intro a hE
                have hnb_g4 := blk_lt B_g4
                have hnb_gX := blk_lt B_gX
                have hnb_g8 := blk_lt B_g8
                have hno_W := fun k (h : OB (mA mb_W) k) => (wm_ob O_W h).2
                have hkz9 := K_0.kept.1
                have hct := rcan_any g4 AD219 cD220 (delI L9 xs) nw xn w21 B_g4 O_D hc_D (by have := del_len L9 xs; omega) Nb_D_g4
                rw [hC2e] at hct
                refine p_cons (s_call (xs := [Operand.tmp 66, Operand.tmp 68]) (args := [Value.pointer (some ⟨g4, 0, none⟩), Value.int .i64 xn]) p5_21_3 hE wn_none rfl rfl Try.func19 cl19 (hct) ?_)
                rintro e w32 ⟨AD230, cD231, rfl, B_g4', O_D2, hc_D2, hg9, hk⟩
                replace B_gX := kp_blk B_gX hk (Ne.symm n_g4_gX)
                replace B_g8 := kp_blk B_g8 hk (Ne.symm n_g4_g8)
                replace O_W := wm_keep O_W hk (fun k hk2 h2 => Nb_W_g4 (by rw [show k = g4 from h2] at hk2; exact hk2))
                replace O_D := Rv.rdv_keep O_D hk (fun k hk2 h2 => Nb_D_g4 (by rw [show k = g4 from h2] at hk2; exact hk2))
                replace K_0 := K_0.then_ hk (fun k h => by rw [show k = g4 from h]; exact Or.inr z_0_g4)
                replace B_g4 := B_g4'
                have Nb_D2_g4 : ¬ OB AD230 g4 := fun h => (hg9 _ h).elim Nb_D_g4 (fun h2 => by have := hnb_g4; omega)
                have Nb_D2_gX : ¬ OB AD230 gX := fun h => (hg9 _ h).elim Nb_D_gX (fun h2 => by have := hnb_gX; omega)
                have Nb_D2_g8 : ¬ OB AD230 g8 := fun h => (hg9 _ h).elim Nb_D_g8 (fun h2 => by have := hnb_g8; omega)
                have NN_D2_W : ∀ k, OB AD230 k → ¬ OB (mA mb_W) k := fun k h h2 => (hg9 _ h).elim (fun h3 => NN_D_W k h3 h2) (fun h3 => by have := hno_W k h2; omega)
                have NN_W_D2 : ∀ k, OB (mA mb_W) k → ¬ OB AD230 k := fun k h h2 => NN_D2_W k h2 h
                have O_D := O_D2
                have hc_D := hc_D2
                have Nb_D_g4 := Nb_D2_g4
                have Nb_D_gX := Nb_D2_gX
                have Nb_D_g8 := Nb_D2_g8
                have NN_D_W := NN_D2_W
                have NN_W_D := NN_W_D2
                refine ⟨_, rfl, ?_⟩
                clear hE a; intro a hE
                refine p_nil ?_
                refine x_norm ?_
                refine c_cond (t := false) hE rfl ?_
                refine wp_skip ?_
                refine x_norm ?_
                refine c_regL R5_23_l ?_
                refine q0 p5_23_0 hE (st_move rfl) ?_
                clear hE a; intro a hE
                refine q0 p5_23_1 hE (st_fieldAddr Try.underlying33 rfl tS3 rfl rfl) ?_
                clear hE a; intro a hE
                refine q0 p5_23_2 hE (st_load1 tA3 rfl ((blk_cell B_g8 1).trans rfl)) ?_
                clear hE a; intro a hE
                refine q0 p5_23_3 hE (st_fieldAddr Try.underlying33 rfl tS3 rfl rfl) ?_
                clear hE a; intro a hE
                refine q0 p5_23_4 hE (st_load1 tA3 rfl ((blk_cell B_g8 2).trans rfl)) ?_
                clear hE a; intro a hE
                refine p_cons (s_row (xs := [(0, Operand.tmp 74), (1, Operand.tmp 76)]) (vs := [(0, Value.int .i64 xs), (1, Value.int .i64 xn)]) (cs := #[Value.int .i64 xs, Value.int .i64 xn]) p5_23_5 hE wn_none rfl Try.underlying35 rfl (by kernel_rfl) ?_)
                clear hE a; intro g33 w34 z35 B_g33 hk a hE
                have n_g4_g33 : g4 ≠ g33 := ne_new B_g4 z35
                have n_gX_g33 : gX ≠ g33 := ne_new B_gX z35
                have n_g8_g33 : g8 ≠ g33 := ne_new B_g8 z35
                have z_0_g33 := Nat.le_trans K_0.kept.1 z35
                have Nb_W_g33 : ¬ OB (mA mb_W) g33 := fun h => by have := (wm_ob O_W h).2; omega
                have Nb_D_g33 : ¬ OB AD230 g33 := fun h => by have := (Rv.rdv_ob O_D h).2; omega
                replace B_g4 := kp_blk B_g4 hk (fun h => h)
                replace B_gX := kp_blk B_gX hk (fun h => h)
                replace B_g8 := kp_blk B_g8 hk (fun h => h)
                replace O_W := wm_keep O_W hk (fun _ _ h => h)
                replace O_D := Rv.rdv_keep O_D hk (fun _ _ h => h)
                replace K_0 := K_0.then_ hk (fun _ h => h.elim)
                clear hk
                have hk1 := del_cnt1 ((congrArg Option.isSome (get_permA hrel.perm hrel.ndl xs)).trans hC1e)
                have hk2 := del_cnt0 ((congrArg Option.isSome (get_permA (hrel.del xs).perm (hrel.del xs).ndl xn)).trans hC2e)
                refine p_cons (s_call (xs := [Operand.tmp 72, Operand.tmp 77]) (args := [Value.pointer (some ⟨gX, 0, none⟩), Value.slice (some ⟨g33, 0, none⟩) 2 2]) p5_23_6 hE wn_none rfl rfl Try.func9 cl9 (cancel_u gX nw mb_W l9 g33 xs xn _ (by omega) B_g33 n_gX_g33 B_gX O_W Nb_W_gX) ?_)
                rintro e w36 ⟨rfl, O_W', hk⟩
                replace B_g4 := kp_blk B_g4 hk Nb_W_g4
                replace B_gX := kp_blk B_gX hk Nb_W_gX
                replace B_g8 := kp_blk B_g8 hk Nb_W_g8
                replace B_g33 := kp_blk B_g33 hk Nb_W_g33
                replace O_D := Rv.rdv_keep O_D hk NN_D_W
                replace K_0 := K_0.then_ hk Z_0_W
                replace O_W := O_W'
                have hrel2 := (hrel.del xs).del xn
                have hsl : (delI (delI l9 xs) xn).length ≤ l9.length + 1 := by omega
                refine ⟨_, rfl, ?_⟩
                clear hE a; intro a hE
                refine q0 p5_23_7 hE (st_move rfl) ?_
                clear hE a; intro a hE
                refine q0 p5_23_8 hE (st_eql (b := true) rfl rfl (decide_eq_true (by omega))) ?_
                clear hE a; intro a hE
                refine q0 p5_23_9 hE (st_assign rfl) ?_
                clear hE a; intro a hE
                refine p_nil ?_
                refine x_normB ?_
                refine x_norm ?_
                refine c_reg R5_31_l ?_
                refine q0 p5_31_0 hE (st_move rfl) ?_
                clear hE a; intro a hE
                refine q0 p5_31_1 hE (st_not rfl rfl) ?_
                clear hE a; intro a hE
                refine q0 p5_31_2 hE (st_move rfl) ?_
                clear hE a; intro a hE
                refine p_cons (s_still p5_31_3 hE (wn_some g5_31_2 rfl rfl) rfl (st_move rfl) ?_)
                clear hE a; intro a hE
                refine p_cons (s_still p5_31_4 hE (wn_some g5_31_2 rfl rfl) rfl (st_move rfl) ?_)
                clear hE a; intro a hE
                refine p_cons (s_still p5_31_5 hE (wn_some g5_31_2 rfl rfl) rfl (st_fieldAddr Try.underlying33 rfl tS3 rfl rfl) ?_)
                clear hE a; intro a hE
                refine p_cons (s_still p5_31_6 hE (wn_some g5_31_2 rfl rfl) rfl (st_load1 tA3 rfl ((blk_cell B_g8 1).trans rfl)) ?_)
                clear hE a; intro a hE
                refine p_cons (s_call (xs := [Operand.tmp 125, Operand.tmp 126, Operand.tmp 128]) (args := [Value.pointer (some ⟨gX, 0, none⟩), Value.pointer (some ⟨g4, 0, none⟩), Value.int .i64 xs]) p5_31_7 hE (wn_some g5_31_2 rfl rfl) rfl rfl Try.func21 cl21 (tells_any gX g4 mb_W (delI (delI l9 xs) xn) (delI (delI L9 xs) xn) nw AD230 cD231 xs hrel2 (by have := hrel2.perm.length_eq; omega) _ B_gX O_W Nb_W_gX B_g4 O_D hc_D Nb_D_g4) ?_)
                rintro e w37 ⟨rfl, hk⟩
                replace B_g4 := kp_blk B_g4 hk (fun h => h)
                replace B_gX := kp_blk B_gX hk (fun h => h)
                replace B_g8 := kp_blk B_g8 hk (fun h => h)
                replace B_g33 := kp_blk B_g33 hk (fun h => h)
                replace O_W := wm_keep O_W hk (fun _ _ h => h)
                replace O_D := Rv.rdv_keep O_D hk (fun _ _ h => h)
                replace K_0 := K_0.then_ hk (fun _ h => h.elim)
                refine ⟨_, rfl, ?_⟩
                clear hE a; intro a hE
                refine p_cons (s_still p5_31_8 hE (wn_some g5_31_2 rfl rfl) rfl (st_not rfl rfl) ?_)
                clear hE a; intro a hE
                refine q0 p5_31_9 hE (st_pick rfl rfl) ?_
                clear hE a; intro a hE
                refine p_nil ?_
                refine x_norm ?_
                refine c_cond (t := false) hE rfl ?_
                refine wp_skip ?_
                refine x_normB ?_
                refine x_norm ?_
                refine c_regL R5_5_l ?_
                refine q0 p5_5_0 hE (st_move rfl) ?_
                clear hE a; intro a hE
                refine q0 p5_5_1 hE (st_add (z := (i : Int) + 1) rfl rfl (wr_i64 _ (by omega) (by omega))) ?_
                clear hE a; intro a hE
                refine q0 p5_5_2 hE (st_assign rfl) ?_
                clear hE a; intro a hE
                refine p_nil ?_
                refine x_norm ?_
                exact ⟨i + 1, by omega, mb_W, AD230, cD231, (delI (delI L9 xs) xn).length, gX, nw, (delI (delI l9 xs) xn), (delI (delI L9 xs) xn), En.sub hE ⟨rfl, rfl, rfl, rfl, trivial⟩, hrel2, (by omega), by omega, rfl, hc_D, by omega, B_g4, B_gX, z_0_gX, n_g4_gX, O_W, Nb_W_g4, Nb_W_gX, Z_0_W, NN_W_D, O_D, Nb_D_g4, Nb_D_gX, NN_D_W, K_0⟩
            ·
              have hC1e : (getI L9 xs).isSome = false := by simpa using hC1
              refine c_reg R5_19_l ?_
              refine q0 p5_19_0 hE (st_move rfl) ?_
              clear hE a; intro a hE
              refine q0 p5_19_1 hE (st_fieldAddr Try.underlying33 rfl tS3 rfl rfl) ?_
              clear hE a; intro a hE
              refine q0 p5_19_2 hE (st_load1 tA3 rfl ((blk_cell B_g8 1).trans rfl)) ?_
              clear hE a; intro a hE
              have hnb_g4 := blk_lt B_g4
              have hnb_gX := blk_lt B_gX
              have hnb_g8 := blk_lt B_g8
              have hno_W := fun k (h : OB (mA mb_W) k) => (wm_ob O_W h).2
              have hkz9 := K_0.kept.1
              have hct := rcan_any g4 A_D c_D L9 nw xs w11 B_g4 O_D hc_D (by have := del_len L9 xs; omega) Nb_D_g4
              rw [hC1e] at hct
              refine p_cons (s_call (xs := [Operand.tmp 60, Operand.tmp 62]) (args := [Value.pointer (some ⟨g4, 0, none⟩), Value.int .i64 xs]) p5_19_3 hE wn_none rfl rfl Try.func19 cl19 (hct) ?_)
              rintro e w40 ⟨AD238, cD239, rfl, B_g4', O_D2, hc_D2, hg9, hk⟩
              replace B_gX := kp_blk B_gX hk (Ne.symm n_g4_gX)
              replace B_g8 := kp_blk B_g8 hk (Ne.symm n_g4_g8)
              replace O_W := wm_keep O_W hk (fun k hk2 h2 => Nb_W_g4 (by rw [show k = g4 from h2] at hk2; exact hk2))
              replace O_D := Rv.rdv_keep O_D hk (fun k hk2 h2 => Nb_D_g4 (by rw [show k = g4 from h2] at hk2; exact hk2))
              replace K_0 := K_0.then_ hk (fun k h => by rw [show k = g4 from h]; exact Or.inr z_0_g4)
              replace B_g4 := B_g4'
              have Nb_D2_g4 : ¬ OB AD238 g4 := fun h => (hg9 _ h).elim Nb_D_g4 (fun h2 => by have := hnb_g4; omega)
              have Nb_D2_gX : ¬ OB AD238 gX := fun h => (hg9 _ h).elim Nb_D_gX (fun h2 => by have := hnb_gX; omega)
              have Nb_D2_g8 : ¬ OB AD238 g8 := fun h => (hg9 _ h).elim Nb_D_g8 (fun h2 => by have := hnb_g8; omega)
              have NN_D2_W : ∀ k, OB AD238 k → ¬ OB (mA mb_W) k := fun k h h2 => (hg9 _ h).elim (fun h3 => NN_D_W k h3 h2) (fun h3 => by have := hno_W k h2; omega)
              have NN_W_D2 : ∀ k, OB (mA mb_W) k → ¬ OB AD238 k := fun k h h2 => NN_D2_W k h2 h
              have O_D := O_D2
              have hc_D := hc_D2
              have Nb_D_g4 := Nb_D2_g4
              have Nb_D_gX := Nb_D2_gX
              have Nb_D_g8 := Nb_D2_g8
              have NN_D_W := NN_D2_W
              have NN_W_D := NN_W_D2
              refine ⟨_, rfl, ?_⟩
              clear hE a; intro a hE
              refine p_nil ?_
              refine x_norm ?_
              refine c_cond (t := false) hE rfl ?_
              refine wp_skip ?_
              refine x_norm ?_
              refine wp_seq ?_
              rcases Decidable.em ((getI (delI L9 xs) xn).isSome = true) with hC2 | hC2
              ·
                have hC2e : (getI (delI L9 xs) xn).isSome = true := hC2
                refine c_reg R5_21_l ?_
                refine q0 p5_21_0 hE (st_move rfl) ?_
                clear hE a; intro a hE
                refine q0 p5_21_1 hE (st_fieldAddr Try.underlying33 rfl tS3 rfl rfl) ?_
                clear hE a; intro a hE
                refine q0 p5_21_2 hE (st_load1 tA3 rfl ((blk_cell B_g8 2).trans rfl)) ?_
                clear hE a; intro a hE
                have hnb_g4 := blk_lt B_g4
                have hnb_gX := blk_lt B_gX
                have hnb_g8 := blk_lt B_g8
                have hno_W := fun k (h : OB (mA mb_W) k) => (wm_ob O_W h).2
                have hkz9 := K_0.kept.1
                have hct := rcan_any g4 AD238 cD239 (delI L9 xs) nw xn w40 B_g4 O_D hc_D (by have := del_len L9 xs; omega) Nb_D_g4
                rw [hC2e] at hct
                refine p_cons (s_call (xs := [Operand.tmp 66, Operand.tmp 68]) (args := [Value.pointer (some ⟨g4, 0, none⟩), Value.int .i64 xn]) p5_21_3 hE wn_none rfl rfl Try.func19 cl19 (hct) ?_)
                rintro e w43 ⟨AD241, cD242, rfl, B_g4', O_D2, hc_D2, hg9, hk⟩
                replace B_gX := kp_blk B_gX hk (Ne.symm n_g4_gX)
                replace B_g8 := kp_blk B_g8 hk (Ne.symm n_g4_g8)
                replace O_W := wm_keep O_W hk (fun k hk2 h2 => Nb_W_g4 (by rw [show k = g4 from h2] at hk2; exact hk2))
                replace O_D := Rv.rdv_keep O_D hk (fun k hk2 h2 => Nb_D_g4 (by rw [show k = g4 from h2] at hk2; exact hk2))
                replace K_0 := K_0.then_ hk (fun k h => by rw [show k = g4 from h]; exact Or.inr z_0_g4)
                replace B_g4 := B_g4'
                have Nb_D2_g4 : ¬ OB AD241 g4 := fun h => (hg9 _ h).elim Nb_D_g4 (fun h2 => by have := hnb_g4; omega)
                have Nb_D2_gX : ¬ OB AD241 gX := fun h => (hg9 _ h).elim Nb_D_gX (fun h2 => by have := hnb_gX; omega)
                have Nb_D2_g8 : ¬ OB AD241 g8 := fun h => (hg9 _ h).elim Nb_D_g8 (fun h2 => by have := hnb_g8; omega)
                have NN_D2_W : ∀ k, OB AD241 k → ¬ OB (mA mb_W) k := fun k h h2 => (hg9 _ h).elim (fun h3 => NN_D_W k h3 h2) (fun h3 => by have := hno_W k h2; omega)
                have NN_W_D2 : ∀ k, OB (mA mb_W) k → ¬ OB AD241 k := fun k h h2 => NN_D2_W k h2 h
                have O_D := O_D2
                have hc_D := hc_D2
                have Nb_D_g4 := Nb_D2_g4
                have Nb_D_gX := Nb_D2_gX
                have Nb_D_g8 := Nb_D2_g8
                have NN_D_W := NN_D2_W
                have NN_W_D := NN_W_D2
                refine ⟨_, rfl, ?_⟩
                clear hE a; intro a hE
                refine p_nil ?_
                refine x_norm ?_
                refine c_cond (t := true) hE rfl ?_
                refine c_regL R5_22_l ?_
                refine q0 p5_22_0 hE (st_move rfl) ?_
                clear hE a; intro a hE
                refine q0 p5_22_1 hE (st_add (z := 1) rfl rfl (by decide)) ?_
                clear hE a; intro a hE
                refine q0 p5_22_2 hE (st_assign rfl) ?_
                clear hE a; intro a hE
                refine p_nil ?_
                refine x_norm ?_
                refine c_regL R5_23_l ?_
                refine q0 p5_23_0 hE (st_move rfl) ?_
                clear hE a; intro a hE
                refine q0 p5_23_1 hE (st_fieldAddr Try.underlying33 rfl tS3 rfl rfl) ?_
                clear hE a; intro a hE
                refine q0 p5_23_2 hE (st_load1 tA3 rfl ((blk_cell B_g8 1).trans rfl)) ?_
                clear hE a; intro a hE
                refine q0 p5_23_3 hE (st_fieldAddr Try.underlying33 rfl tS3 rfl rfl) ?_
                clear hE a; intro a hE
                refine q0 p5_23_4 hE (st_load1 tA3 rfl ((blk_cell B_g8 2).trans rfl)) ?_
                clear hE a; intro a hE
                refine p_cons (s_row (xs := [(0, Operand.tmp 74), (1, Operand.tmp 76)]) (vs := [(0, Value.int .i64 xs), (1, Value.int .i64 xn)]) (cs := #[Value.int .i64 xs, Value.int .i64 xn]) p5_23_5 hE wn_none rfl Try.underlying35 rfl (by kernel_rfl) ?_)
                clear hE a; intro g44 w45 z46 B_g44 hk a hE
                have n_g4_g44 : g4 ≠ g44 := ne_new B_g4 z46
                have n_gX_g44 : gX ≠ g44 := ne_new B_gX z46
                have n_g8_g44 : g8 ≠ g44 := ne_new B_g8 z46
                have z_0_g44 := Nat.le_trans K_0.kept.1 z46
                have Nb_W_g44 : ¬ OB (mA mb_W) g44 := fun h => by have := (wm_ob O_W h).2; omega
                have Nb_D_g44 : ¬ OB AD241 g44 := fun h => by have := (Rv.rdv_ob O_D h).2; omega
                replace B_g4 := kp_blk B_g4 hk (fun h => h)
                replace B_gX := kp_blk B_gX hk (fun h => h)
                replace B_g8 := kp_blk B_g8 hk (fun h => h)
                replace O_W := wm_keep O_W hk (fun _ _ h => h)
                replace O_D := Rv.rdv_keep O_D hk (fun _ _ h => h)
                replace K_0 := K_0.then_ hk (fun _ h => h.elim)
                clear hk
                have hk1 := del_cnt0 ((congrArg Option.isSome (get_permA hrel.perm hrel.ndl xs)).trans hC1e)
                have hk2 := del_cnt1 ((congrArg Option.isSome (get_permA (hrel.del xs).perm (hrel.del xs).ndl xn)).trans hC2e)
                refine p_cons (s_call (xs := [Operand.tmp 72, Operand.tmp 77]) (args := [Value.pointer (some ⟨gX, 0, none⟩), Value.slice (some ⟨g44, 0, none⟩) 2 2]) p5_23_6 hE wn_none rfl rfl Try.func9 cl9 (cancel_u gX nw mb_W l9 g44 xs xn _ (by omega) B_g44 n_gX_g44 B_gX O_W Nb_W_gX) ?_)
                rintro e w47 ⟨rfl, O_W', hk⟩
                replace B_g4 := kp_blk B_g4 hk Nb_W_g4
                replace B_gX := kp_blk B_gX hk Nb_W_gX
                replace B_g8 := kp_blk B_g8 hk Nb_W_g8
                replace B_g44 := kp_blk B_g44 hk Nb_W_g44
                replace O_D := Rv.rdv_keep O_D hk NN_D_W
                replace K_0 := K_0.then_ hk Z_0_W
                replace O_W := O_W'
                have hrel2 := (hrel.del xs).del xn
                have hsl : (delI (delI l9 xs) xn).length ≤ l9.length + 1 := by omega
                refine ⟨_, rfl, ?_⟩
                clear hE a; intro a hE
                refine q0 p5_23_7 hE (st_move rfl) ?_
                clear hE a; intro a hE
                refine q0 p5_23_8 hE (st_eql (b := true) rfl rfl (decide_eq_true (by omega))) ?_
                clear hE a; intro a hE
                refine q0 p5_23_9 hE (st_assign rfl) ?_
                clear hE a; intro a hE
                refine p_nil ?_
                refine x_normB ?_
                refine x_norm ?_
                refine c_reg R5_31_l ?_
                refine q0 p5_31_0 hE (st_move rfl) ?_
                clear hE a; intro a hE
                refine q0 p5_31_1 hE (st_not rfl rfl) ?_
                clear hE a; intro a hE
                refine q0 p5_31_2 hE (st_move rfl) ?_
                clear hE a; intro a hE
                refine p_cons (s_still p5_31_3 hE (wn_some g5_31_2 rfl rfl) rfl (st_move rfl) ?_)
                clear hE a; intro a hE
                refine p_cons (s_still p5_31_4 hE (wn_some g5_31_2 rfl rfl) rfl (st_move rfl) ?_)
                clear hE a; intro a hE
                refine p_cons (s_still p5_31_5 hE (wn_some g5_31_2 rfl rfl) rfl (st_fieldAddr Try.underlying33 rfl tS3 rfl rfl) ?_)
                clear hE a; intro a hE
                refine p_cons (s_still p5_31_6 hE (wn_some g5_31_2 rfl rfl) rfl (st_load1 tA3 rfl ((blk_cell B_g8 1).trans rfl)) ?_)
                clear hE a; intro a hE
                refine p_cons (s_call (xs := [Operand.tmp 125, Operand.tmp 126, Operand.tmp 128]) (args := [Value.pointer (some ⟨gX, 0, none⟩), Value.pointer (some ⟨g4, 0, none⟩), Value.int .i64 xs]) p5_31_7 hE (wn_some g5_31_2 rfl rfl) rfl rfl Try.func21 cl21 (tells_any gX g4 mb_W (delI (delI l9 xs) xn) (delI (delI L9 xs) xn) nw AD241 cD242 xs hrel2 (by have := hrel2.perm.length_eq; omega) _ B_gX O_W Nb_W_gX B_g4 O_D hc_D Nb_D_g4) ?_)
                rintro e w48 ⟨rfl, hk⟩
                replace B_g4 := kp_blk B_g4 hk (fun h => h)
                replace B_gX := kp_blk B_gX hk (fun h => h)
                replace B_g8 := kp_blk B_g8 hk (fun h => h)
                replace B_g44 := kp_blk B_g44 hk (fun h => h)
                replace O_W := wm_keep O_W hk (fun _ _ h => h)
                replace O_D := Rv.rdv_keep O_D hk (fun _ _ h => h)
                replace K_0 := K_0.then_ hk (fun _ h => h.elim)
                refine ⟨_, rfl, ?_⟩
                clear hE a; intro a hE
                refine p_cons (s_still p5_31_8 hE (wn_some g5_31_2 rfl rfl) rfl (st_not rfl rfl) ?_)
                clear hE a; intro a hE
                refine q0 p5_31_9 hE (st_pick rfl rfl) ?_
                clear hE a; intro a hE
                refine p_nil ?_
                refine x_norm ?_
                refine c_cond (t := false) hE rfl ?_
                refine wp_skip ?_
                refine x_normB ?_
                refine x_norm ?_
                refine c_regL R5_5_l ?_
                refine q0 p5_5_0 hE (st_move rfl) ?_
                clear hE a; intro a hE
                refine q0 p5_5_1 hE (st_add (z := (i : Int) + 1) rfl rfl (wr_i64 _ (by omega) (by omega))) ?_
                clear hE a; intro a hE
                refine q0 p5_5_2 hE (st_assign rfl) ?_
                clear hE a; intro a hE
                refine p_nil ?_
                refine x_norm ?_
                exact ⟨i + 1, by omega, mb_W, AD241, cD242, (delI (delI L9 xs) xn).length, gX, nw, (delI (delI l9 xs) xn), (delI (delI L9 xs) xn), En.sub hE ⟨rfl, rfl, rfl, rfl, trivial⟩, hrel2, (by omega), by omega, rfl, hc_D, by omega, B_g4, B_gX, z_0_gX, n_g4_gX, O_W, Nb_W_g4, Nb_W_gX, Z_0_W, NN_W_D, O_D, Nb_D_g4, Nb_D_gX, NN_D_W, K_0⟩
              ·
                have hC2e : (getI (delI L9 xs) xn).isSome = false := by simpa using hC2
                refine c_reg R5_21_l ?_
                refine q0 p5_21_0 hE (st_move rfl) ?_
                clear hE a; intro a hE
                refine q0 p5_21_1 hE (st_fieldAddr Try.underlying33 rfl tS3 rfl rfl) ?_
                clear hE a; intro a hE
                refine q0 p5_21_2 hE (st_load1 tA3 rfl ((blk_cell B_g8 2).trans rfl)) ?_
                clear hE a; intro a hE
                have hnb_g4 := blk_lt B_g4
                have hnb_gX := blk_lt B_gX
                have hnb_g8 := blk_lt B_g8
                have hno_W := fun k (h : OB (mA mb_W) k) => (wm_ob O_W h).2
                have hkz9 := K_0.kept.1
                have hct := rcan_any g4 AD238 cD239 (delI L9 xs) nw xn w40 B_g4 O_D hc_D (by have := del_len L9 xs; omega) Nb_D_g4
                rw [hC2e] at hct
                refine p_cons (s_call (xs := [Operand.tmp 66, Operand.tmp 68]) (args := [Value.pointer (some ⟨g4, 0, none⟩), Value.int .i64 xn]) p5_21_3 hE wn_none rfl rfl Try.func19 cl19 (hct) ?_)
                rintro e w51 ⟨AD249, cD250, rfl, B_g4', O_D2, hc_D2, hg9, hk⟩
                replace B_gX := kp_blk B_gX hk (Ne.symm n_g4_gX)
                replace B_g8 := kp_blk B_g8 hk (Ne.symm n_g4_g8)
                replace O_W := wm_keep O_W hk (fun k hk2 h2 => Nb_W_g4 (by rw [show k = g4 from h2] at hk2; exact hk2))
                replace O_D := Rv.rdv_keep O_D hk (fun k hk2 h2 => Nb_D_g4 (by rw [show k = g4 from h2] at hk2; exact hk2))
                replace K_0 := K_0.then_ hk (fun k h => by rw [show k = g4 from h]; exact Or.inr z_0_g4)
                replace B_g4 := B_g4'
                have Nb_D2_g4 : ¬ OB AD249 g4 := fun h => (hg9 _ h).elim Nb_D_g4 (fun h2 => by have := hnb_g4; omega)
                have Nb_D2_gX : ¬ OB AD249 gX := fun h => (hg9 _ h).elim Nb_D_gX (fun h2 => by have := hnb_gX; omega)
                have Nb_D2_g8 : ¬ OB AD249 g8 := fun h => (hg9 _ h).elim Nb_D_g8 (fun h2 => by have := hnb_g8; omega)
                have NN_D2_W : ∀ k, OB AD249 k → ¬ OB (mA mb_W) k := fun k h h2 => (hg9 _ h).elim (fun h3 => NN_D_W k h3 h2) (fun h3 => by have := hno_W k h2; omega)
                have NN_W_D2 : ∀ k, OB (mA mb_W) k → ¬ OB AD249 k := fun k h h2 => NN_D2_W k h2 h
                have O_D := O_D2
                have hc_D := hc_D2
                have Nb_D_g4 := Nb_D2_g4
                have Nb_D_gX := Nb_D2_gX
                have Nb_D_g8 := Nb_D2_g8
                have NN_D_W := NN_D2_W
                have NN_W_D := NN_W_D2
                refine ⟨_, rfl, ?_⟩
                clear hE a; intro a hE
                refine p_nil ?_
                refine x_norm ?_
                refine c_cond (t := false) hE rfl ?_
                refine wp_skip ?_
                refine x_norm ?_
                refine c_regL R5_23_l ?_
                refine q0 p5_23_0 hE (st_move rfl) ?_
                clear hE a; intro a hE
                refine q0 p5_23_1 hE (st_fieldAddr Try.underlying33 rfl tS3 rfl rfl) ?_
                clear hE a; intro a hE
                refine q0 p5_23_2 hE (st_load1 tA3 rfl ((blk_cell B_g8 1).trans rfl)) ?_
                clear hE a; intro a hE
                refine q0 p5_23_3 hE (st_fieldAddr Try.underlying33 rfl tS3 rfl rfl) ?_
                clear hE a; intro a hE
                refine q0 p5_23_4 hE (st_load1 tA3 rfl ((blk_cell B_g8 2).trans rfl)) ?_
                clear hE a; intro a hE
                refine p_cons (s_row (xs := [(0, Operand.tmp 74), (1, Operand.tmp 76)]) (vs := [(0, Value.int .i64 xs), (1, Value.int .i64 xn)]) (cs := #[Value.int .i64 xs, Value.int .i64 xn]) p5_23_5 hE wn_none rfl Try.underlying35 rfl (by kernel_rfl) ?_)
                clear hE a; intro g52 w53 z54 B_g52 hk a hE
                have n_g4_g52 : g4 ≠ g52 := ne_new B_g4 z54
                have n_gX_g52 : gX ≠ g52 := ne_new B_gX z54
                have n_g8_g52 : g8 ≠ g52 := ne_new B_g8 z54
                have z_0_g52 := Nat.le_trans K_0.kept.1 z54
                have Nb_W_g52 : ¬ OB (mA mb_W) g52 := fun h => by have := (wm_ob O_W h).2; omega
                have Nb_D_g52 : ¬ OB AD249 g52 := fun h => by have := (Rv.rdv_ob O_D h).2; omega
                replace B_g4 := kp_blk B_g4 hk (fun h => h)
                replace B_gX := kp_blk B_gX hk (fun h => h)
                replace B_g8 := kp_blk B_g8 hk (fun h => h)
                replace O_W := wm_keep O_W hk (fun _ _ h => h)
                replace O_D := Rv.rdv_keep O_D hk (fun _ _ h => h)
                replace K_0 := K_0.then_ hk (fun _ h => h.elim)
                clear hk
                have hk1 := del_cnt0 ((congrArg Option.isSome (get_permA hrel.perm hrel.ndl xs)).trans hC1e)
                have hk2 := del_cnt0 ((congrArg Option.isSome (get_permA (hrel.del xs).perm (hrel.del xs).ndl xn)).trans hC2e)
                refine p_cons (s_call (xs := [Operand.tmp 72, Operand.tmp 77]) (args := [Value.pointer (some ⟨gX, 0, none⟩), Value.slice (some ⟨g52, 0, none⟩) 2 2]) p5_23_6 hE wn_none rfl rfl Try.func9 cl9 (cancel_u gX nw mb_W l9 g52 xs xn _ (by omega) B_g52 n_gX_g52 B_gX O_W Nb_W_gX) ?_)
                rintro e w55 ⟨rfl, O_W', hk⟩
                replace B_g4 := kp_blk B_g4 hk Nb_W_g4
                replace B_gX := kp_blk B_gX hk Nb_W_gX
                replace B_g8 := kp_blk B_g8 hk Nb_W_g8
                replace B_g52 := kp_blk B_g52 hk Nb_W_g52
                replace O_D := Rv.rdv_keep O_D hk NN_D_W
                replace K_0 := K_0.then_ hk Z_0_W
                replace O_W := O_W'
                have hrel2 := (hrel.del xs).del xn
                have hsl : (delI (delI l9 xs) xn).length ≤ l9.length + 1 := by omega
                refine ⟨_, rfl, ?_⟩
                clear hE a; intro a hE
                refine q0 p5_23_7 hE (st_move rfl) ?_
                clear hE a; intro a hE
                refine q0 p5_23_8 hE (st_eql (b := true) rfl rfl (decide_eq_true (by omega))) ?_
                clear hE a; intro a hE
                refine q0 p5_23_9 hE (st_assign rfl) ?_
                clear hE a; intro a hE
                refine p_nil ?_
                refine x_normB ?_
                refine x_norm ?_
                refine c_reg R5_31_l ?_
                refine q0 p5_31_0 hE (st_move rfl) ?_
                clear hE a; intro a hE
                refine q0 p5_31_1 hE (st_not rfl rfl) ?_
                clear hE a; intro a hE
                refine q0 p5_31_2 hE (st_move rfl) ?_
                clear hE a; intro a hE
                refine p_cons (s_still p5_31_3 hE (wn_some g5_31_2 rfl rfl) rfl (st_move rfl) ?_)
                clear hE a; intro a hE
                refine p_cons (s_still p5_31_4 hE (wn_some g5_31_2 rfl rfl) rfl (st_move rfl) ?_)
                clear hE a; intro a hE
                refine p_cons (s_still p5_31_5 hE (wn_some g5_31_2 rfl rfl) rfl (st_fieldAddr Try.underlying33 rfl tS3 rfl rfl) ?_)
                clear hE a; intro a hE
                refine p_cons (s_still p5_31_6 hE (wn_some g5_31_2 rfl rfl) rfl (st_load1 tA3 rfl ((blk_cell B_g8 1).trans rfl)) ?_)
                clear hE a; intro a hE
                refine p_cons (s_call (xs := [Operand.tmp 125, Operand.tmp 126, Operand.tmp 128]) (args := [Value.pointer (some ⟨gX, 0, none⟩), Value.pointer (some ⟨g4, 0, none⟩), Value.int .i64 xs]) p5_31_7 hE (wn_some g5_31_2 rfl rfl) rfl rfl Try.func21 cl21 (tells_any gX g4 mb_W (delI (delI l9 xs) xn) (delI (delI L9 xs) xn) nw AD249 cD250 xs hrel2 (by have := hrel2.perm.length_eq; omega) _ B_gX O_W Nb_W_gX B_g4 O_D hc_D Nb_D_g4) ?_)
                rintro e w56 ⟨rfl, hk⟩
                replace B_g4 := kp_blk B_g4 hk (fun h => h)
                replace B_gX := kp_blk B_gX hk (fun h => h)
                replace B_g8 := kp_blk B_g8 hk (fun h => h)
                replace B_g52 := kp_blk B_g52 hk (fun h => h)
                replace O_W := wm_keep O_W hk (fun _ _ h => h)
                replace O_D := Rv.rdv_keep O_D hk (fun _ _ h => h)
                replace K_0 := K_0.then_ hk (fun _ h => h.elim)
                refine ⟨_, rfl, ?_⟩
                clear hE a; intro a hE
                refine p_cons (s_still p5_31_8 hE (wn_some g5_31_2 rfl rfl) rfl (st_not rfl rfl) ?_)
                clear hE a; intro a hE
                refine q0 p5_31_9 hE (st_pick rfl rfl) ?_
                clear hE a; intro a hE
                refine p_nil ?_
                refine x_norm ?_
                refine c_cond (t := false) hE rfl ?_
                refine wp_skip ?_
                refine x_normB ?_
                refine x_norm ?_
                refine c_regL R5_5_l ?_
                refine q0 p5_5_0 hE (st_move rfl) ?_
                clear hE a; intro a hE
                refine q0 p5_5_1 hE (st_add (z := (i : Int) + 1) rfl rfl (wr_i64 _ (by omega) (by omega))) ?_
                clear hE a; intro a hE
                refine q0 p5_5_2 hE (st_assign rfl) ?_
                clear hE a; intro a hE
                refine p_nil ?_
                refine x_norm ?_
                exact ⟨i + 1, by omega, mb_W, AD249, cD250, (delI (delI L9 xs) xn).length, gX, nw, (delI (delI l9 xs) xn), (delI (delI L9 xs) xn), En.sub hE ⟨rfl, rfl, rfl, rfl, trivial⟩, hrel2, (by omega), by omega, rfl, hc_D, by omega, B_g4, B_gX, z_0_gX, n_g4_gX, O_W, Nb_W_g4, Nb_W_gX, Z_0_W, NN_W_D, O_D, Nb_D_g4, Nb_D_gX, NN_D_W, K_0⟩
          ·
            refine c_reg R5_17_l ?_
            refine q0 p5_17_0 hE (st_eql (b := false) rfl rfl (decide_eq_false hKB)) ?_
            clear hE a; intro a hE
            refine q0 p5_17_1 hE (st_assign rfl) ?_
            clear hE a; intro a hE
            refine p_nil ?_
            refine x_norm ?_
            refine c_cond (t := false) hE rfl ?_
            rcases Decidable.em ((xk % 18446744073709551616 % 5) = 2) with hKC | hKC
            ·
              refine c_reg R5_24_l ?_
              refine q0 p5_24_0 hE (st_eql (b := true) rfl rfl (decide_eq_true hKC)) ?_
              clear hE a; intro a hE
              refine q0 p5_24_1 hE (st_assign rfl) ?_
              clear hE a; intro a hE
              refine p_nil ?_
              refine x_norm ?_
              refine c_cond (t := true) hE rfl ?_
              refine c_regL R5_25_l ?_
              refine q0 p5_25_0 hE (st_move rfl) ?_
              clear hE a; intro a hE
              have hnb_g4 := blk_lt B_g4
              have hnb_gX := blk_lt B_gX
              have hnb_g8 := blk_lt B_g8
              have hnz_0 := K_0.kept.1
              have hno_W := fun k (h : OB (mA mb_W) k) => (wm_ob O_W h).2
              have hno_D := fun k (h : OB A_D k) => (Rv.rdv_ob O_D h).2
              have hct := tick_u gX nw mb_W l9 w11 ⟨by omega, by omega⟩ (by omega) B_gX O_W Nb_W_gX
              obtain ⟨FQ60, hFQ60⟩ : ∃ Q, fireO (nw + 1) l9 = Q := ⟨_, rfl⟩
              obtain ⟨SQ61, hSQ61⟩ : ∃ Q, (fireS (nw + 1) l9).2 = Q := ⟨_, rfl⟩
              rw [hFQ60, hSQ61] at hct
              have hfl := fire_lenW hrel.ndl (nw + 1)
              rw [hFQ60, hSQ61] at hfl
              have hsl : SQ61.length ≤ l9.length + 1 := by omega
              refine p_cons (s_call (xs := [Operand.tmp 83]) (args := [Value.pointer (some ⟨gX, 0, none⟩)]) p5_25_1 hE wn_none rfl rfl Try.func10 cl10 (hct) ?_)
              rintro e w62 ⟨At57, ct58, rfl, O_q59, B_gX', O_W', hk⟩
              replace B_g4 := kp_blk B_g4 hk (fun h => h.elim n_g4_gX Nb_W_g4)
              replace B_g8 := kp_blk B_g8 hk (fun h => h.elim (Ne.symm n_gX_g8) Nb_W_g8)
              replace O_D := Rv.rdv_keep O_D hk (fun k hk2 h2 => h2.elim (fun h2 => Nb_D_gX (by rw [show k = gX from h2] at hk2; exact hk2)) (fun h2 => NN_D_W k hk2 h2))
              replace K_0 := K_0.then_ hk (fun k h => h.elim (fun h => by rw [show k = gX from h]; exact Or.inr z_0_gX) (fun h => Z_0_W k h))
              replace B_gX := B_gX'
              replace O_W := O_W'
              have Nb_q59_g4 : ¬ OB At57 g4 := fun h => by have := (own_ob O_q59 h).1; have := hnb_g4; omega
              have Nb_q59_gX : ¬ OB At57 gX := fun h => by have := (own_ob O_q59 h).1; have := hnb_gX; omega
              have Nb_q59_g8 : ¬ OB At57 g8 := fun h => by have := (own_ob O_q59 h).1; have := hnb_g8; omega
              have Z_0_q59 : ∀ k, OB At57 k → (fun _ => False) k ∨ w.heap.size ≤ k := fun k h => .inr (by have := (own_ob O_q59 h).1; have := hnz_0; omega)
              have NN_q59_W : ∀ k, OB At57 k → ¬ OB (mA mb_W) k := fun k h h2 => by have := (own_ob O_q59 h).1; have := hno_W k h2; omega
              have NN_W_q59 : ∀ k, OB (mA mb_W) k → ¬ OB At57 k := fun k h h2 => NN_q59_W k h2 h
              have NN_q59_D : ∀ k, OB At57 k → ¬ OB A_D k := fun k h h2 => by have := (own_ob O_q59 h).1; have := hno_D k h2; omega
              have NN_D_q59 : ∀ k, OB A_D k → ¬ OB At57 k := fun k h h2 => NN_q59_D k h2 h
              replace O_q59 := own_lower O_q59 hnz_0
              refine ⟨_, rfl, ?_⟩
              clear hE a; intro a hE
              refine q0 p5_25_2 hE (st_move rfl) ?_
              clear hE a; intro a hE
              have hnb_g4 := blk_lt B_g4
              have hnb_gX := blk_lt B_gX
              have hnb_g8 := blk_lt B_g8
              have hnz_0 := K_0.kept.1
              have hno_W := fun k (h : OB (mA mb_W) k) => (wm_ob O_W h).2
              have hno_D := fun k (h : OB A_D k) => (Rv.rdv_ob O_D h).2
              have hno_q59 := fun k (h : OB At57 k) => (own_ob O_q59 h).2
              have hct := rrun_any g4 A_D c_D L9 nw 1 1 (if_neg (by omega)) ⟨by omega, by omega⟩ ⟨by omega, by omega⟩ hrel.nd w62 B_g4 O_D hc_D (by omega) Nb_D_g4
              obtain ⟨SR68, hSR68⟩ : ∃ Q, (fireS (nw + 1) L9).2 = Q := ⟨_, rfl⟩
              have hrf := hrel.fire (nw + 1)
              rw [← hrf.1, hFQ60, hSR68] at hct
              have hrel2 := hrf.2
              rw [hSQ61, hSR68] at hrel2
              refine p_cons (s_call (xs := [Operand.tmp 85, Operand.const (Value.int IntKind.i64 1)]) (args := [Value.pointer (some ⟨g4, 0, none⟩), Value.int .i64 1]) p5_25_3 hE wn_none rfl rfl Try.func20 cl20 (hct) ?_)
              rintro e w69 ⟨B63, cb64, AD65, cD66, rfl, O_ra67, B_g4', O_D2, hc_D2, hg9, hk⟩
              replace B_gX := kp_blk B_gX hk (Ne.symm n_g4_gX)
              replace B_g8 := kp_blk B_g8 hk (Ne.symm n_g4_g8)
              replace O_W := wm_keep O_W hk (fun k hk2 h2 => Nb_W_g4 (by rw [show k = g4 from h2] at hk2; exact hk2))
              replace O_D := Rv.rdv_keep O_D hk (fun k hk2 h2 => Nb_D_g4 (by rw [show k = g4 from h2] at hk2; exact hk2))
              replace O_q59 := own_keep O_q59 hk (fun k hk2 h2 => Nb_q59_g4 (by rw [show k = g4 from h2] at hk2; exact hk2))
              replace K_0 := K_0.then_ hk (fun k h => by rw [show k = g4 from h]; exact Or.inr z_0_g4)
              replace B_g4 := B_g4'
              have Nb_ra67_g4 : ¬ OB B63 g4 := fun h => by have := (own_ob O_ra67 h).1; have := hnb_g4; omega
              have Nb_ra67_gX : ¬ OB B63 gX := fun h => by have := (own_ob O_ra67 h).1; have := hnb_gX; omega
              have Nb_ra67_g8 : ¬ OB B63 g8 := fun h => by have := (own_ob O_ra67 h).1; have := hnb_g8; omega
              have Z_0_ra67 : ∀ k, OB B63 k → (fun _ => False) k ∨ w.heap.size ≤ k := fun k h => .inr (by have := (own_ob O_ra67 h).1; have := hnz_0; omega)
              have NN_ra67_W : ∀ k, OB B63 k → ¬ OB (mA mb_W) k := fun k h h2 => by have := (own_ob O_ra67 h).1; have := hno_W k h2; omega
              have NN_W_ra67 : ∀ k, OB (mA mb_W) k → ¬ OB B63 k := fun k h h2 => NN_ra67_W k h2 h
              have NN_ra67_q59 : ∀ k, OB B63 k → ¬ OB At57 k := fun k h h2 => by have := (own_ob O_ra67 h).1; have := hno_q59 k h2; omega
              have NN_q59_ra67 : ∀ k, OB At57 k → ¬ OB B63 k := fun k h h2 => NN_ra67_q59 k h2 h
              replace O_ra67 := own_lower O_ra67 hnz_0
              have Nb_D2_g4 : ¬ OB AD65 g4 := fun h => (hg9 _ h).elim Nb_D_g4 (fun h2 => by have := hnb_g4; omega)
              have Nb_D2_gX : ¬ OB AD65 gX := fun h => (hg9 _ h).elim Nb_D_gX (fun h2 => by have := hnb_gX; omega)
              have Nb_D2_g8 : ¬ OB AD65 g8 := fun h => (hg9 _ h).elim Nb_D_g8 (fun h2 => by have := hnb_g8; omega)
              replace NN_D_W : ∀ k, OB AD65 k → ¬ OB (mA mb_W) k := fun k h h2 => (hg9 k h).elim (fun h3 => NN_D_W k h3 h2) (fun h3 => by have := hno_W k h2; omega)
              replace NN_W_D : ∀ k, OB (mA mb_W) k → ¬ OB AD65 k := fun k h h2 => NN_D_W k h2 h
              replace NN_D_q59 : ∀ k, OB AD65 k → ¬ OB At57 k := fun k h h2 => (hg9 k h).elim (fun h3 => NN_D_q59 k h3 h2) (fun h3 => by have := hno_q59 k h2; omega)
              replace NN_q59_D : ∀ k, OB At57 k → ¬ OB AD65 k := fun k h h2 => NN_D_q59 k h2 h
              have O_D := O_D2
              have hc_D := hc_D2
              have Nb_D_g4 := Nb_D2_g4
              have Nb_D_gX := Nb_D2_gX
              have Nb_D_g8 := Nb_D2_g8
              refine ⟨_, rfl, ?_⟩
              clear hE a; intro a hE
              refine p_cons (s_call (xs := [Operand.tmp 84, Operand.tmp 86]) (args := [Value.slice At57 FQ60.length ct58, Value.slice B63 FQ60.length cb64]) p5_25_4 hE wn_none rfl rfl Try.func15 cl15 (same_i At57 B63 ct58 cb64 FQ60 _ (by omega) (own_told O_q59) (own_told O_ra67)) ?_)
              rintro e w70 ⟨rfl, hk⟩
              replace B_g4 := kp_blk B_g4 hk (fun h => h)
              replace B_gX := kp_blk B_gX hk (fun h => h)
              replace B_g8 := kp_blk B_g8 hk (fun h => h)
              replace O_W := wm_keep O_W hk (fun _ _ h => h)
              replace O_q59 := own_keep O_q59 hk (fun _ _ h => h)
              replace O_D := Rv.rdv_keep O_D hk (fun _ _ h => h)
              replace K_0 := K_0.then_ hk (fun _ h => h.elim)
              refine ⟨_, rfl, ?_⟩
              clear hE a; intro a hE
              refine q0 p5_25_5 hE (st_assign rfl) ?_
              clear hE a; intro a hE
              refine p_nil ?_
              refine x_normB ?_
              refine x_norm ?_
              refine c_reg R5_31_l ?_
              refine q0 p5_31_0 hE (st_move rfl) ?_
              clear hE a; intro a hE
              refine q0 p5_31_1 hE (st_not rfl rfl) ?_
              clear hE a; intro a hE
              refine q0 p5_31_2 hE (st_move rfl) ?_
              clear hE a; intro a hE
              refine p_cons (s_still p5_31_3 hE (wn_some g5_31_2 rfl rfl) rfl (st_move rfl) ?_)
              clear hE a; intro a hE
              refine p_cons (s_still p5_31_4 hE (wn_some g5_31_2 rfl rfl) rfl (st_move rfl) ?_)
              clear hE a; intro a hE
              refine p_cons (s_still p5_31_5 hE (wn_some g5_31_2 rfl rfl) rfl (st_fieldAddr Try.underlying33 rfl tS3 rfl rfl) ?_)
              clear hE a; intro a hE
              refine p_cons (s_still p5_31_6 hE (wn_some g5_31_2 rfl rfl) rfl (st_load1 tA3 rfl ((blk_cell B_g8 1).trans rfl)) ?_)
              clear hE a; intro a hE
              refine p_cons (s_call (xs := [Operand.tmp 125, Operand.tmp 126, Operand.tmp 128]) (args := [Value.pointer (some ⟨gX, 0, none⟩), Value.pointer (some ⟨g4, 0, none⟩), Value.int .i64 xs]) p5_31_7 hE (wn_some g5_31_2 rfl rfl) rfl rfl Try.func21 cl21 (tells_any gX g4 mb_W SQ61 SR68 (nw + 1) AD65 cD66 xs hrel2 (by have := hrel2.perm.length_eq; omega) _ B_gX O_W Nb_W_gX B_g4 O_D hc_D Nb_D_g4) ?_)
              rintro e w71 ⟨rfl, hk⟩
              replace B_g4 := kp_blk B_g4 hk (fun h => h)
              replace B_gX := kp_blk B_gX hk (fun h => h)
              replace B_g8 := kp_blk B_g8 hk (fun h => h)
              replace O_W := wm_keep O_W hk (fun _ _ h => h)
              replace O_D := Rv.rdv_keep O_D hk (fun _ _ h => h)
              replace K_0 := K_0.then_ hk (fun _ h => h.elim)
              refine ⟨_, rfl, ?_⟩
              clear hE a; intro a hE
              refine p_cons (s_still p5_31_8 hE (wn_some g5_31_2 rfl rfl) rfl (st_not rfl rfl) ?_)
              clear hE a; intro a hE
              refine q0 p5_31_9 hE (st_pick rfl rfl) ?_
              clear hE a; intro a hE
              refine p_nil ?_
              refine x_norm ?_
              refine c_cond (t := false) hE rfl ?_
              refine wp_skip ?_
              refine x_normB ?_
              refine x_norm ?_
              refine c_regL R5_5_l ?_
              refine q0 p5_5_0 hE (st_move rfl) ?_
              clear hE a; intro a hE
              refine q0 p5_5_1 hE (st_add (z := (i : Int) + 1) rfl rfl (wr_i64 _ (by omega) (by omega))) ?_
              clear hE a; intro a hE
              refine q0 p5_5_2 hE (st_assign rfl) ?_
              clear hE a; intro a hE
              refine p_nil ?_
              refine x_norm ?_
              exact ⟨i + 1, by omega, mb_W, AD65, cD66, SR68.length, gX, (nw + 1), SQ61, SR68, En.sub hE ⟨rfl, rfl, rfl, rfl, trivial⟩, hrel2, (by omega), by omega, rfl, hc_D, by omega, B_g4, B_gX, z_0_gX, n_g4_gX, O_W, Nb_W_g4, Nb_W_gX, Z_0_W, NN_W_D, O_D, Nb_D_g4, Nb_D_gX, NN_D_W, K_0⟩
            ·
              refine c_reg R5_24_l ?_
              refine q0 p5_24_0 hE (st_eql (b := false) rfl rfl (decide_eq_false hKC)) ?_
              clear hE a; intro a hE
              refine q0 p5_24_1 hE (st_assign rfl) ?_
              clear hE a; intro a hE
              refine p_nil ?_
              refine x_norm ?_
              refine c_cond (t := false) hE rfl ?_
              rcases Decidable.em ((xk % 18446744073709551616 % 5) = 3) with hKD | hKD
              ·
                refine c_reg R5_26_l ?_
                refine q0 p5_26_0 hE (st_eql (b := true) rfl rfl (decide_eq_true hKD)) ?_
                clear hE a; intro a hE
                refine q0 p5_26_1 hE (st_assign rfl) ?_
                clear hE a; intro a hE
                refine p_nil ?_
                refine x_norm ?_
                refine c_cond (t := true) hE rfl ?_
                rcases Decidable.em (xn < 0) with hB1 | hB1
                ·
                  refine c_reg R5_27_l ?_
                  refine q0 p5_27_0 hE (st_move rfl) ?_
                  clear hE a; intro a hE
                  refine q0 p5_27_1 hE (st_fieldAddr Try.underlying33 rfl tS3 rfl rfl) ?_
                  clear hE a; intro a hE
                  refine q0 p5_27_2 hE (st_load1 tA3 rfl ((blk_cell B_g8 2).trans rfl)) ?_
                  clear hE a; intro a hE
                  have hrel2 := hrel
                  have hsl : l9.length ≤ l9.length + 1 := by omega
                  refine p_cons (s_call (xs := [Operand.tmp 91, Operand.tmp 93]) (args := [Value.pointer (some ⟨gX, 0, none⟩), Value.int .i64 xn]) p5_27_3 hE wn_none rfl rfl Try.func13 cl13 (run_bad gX nw xn (Value.map mb_W) (by omega) _ B_gX) ?_)
                  rintro e w72 ⟨rfl, hk⟩
                  replace B_g4 := kp_blk B_g4 hk (fun h => h)
                  replace B_gX := kp_blk B_gX hk (fun h => h)
                  replace B_g8 := kp_blk B_g8 hk (fun h => h)
                  replace O_W := wm_keep O_W hk (fun _ _ h => h)
                  replace O_D := Rv.rdv_keep O_D hk (fun _ _ h => h)
                  replace K_0 := K_0.then_ hk (fun _ h => h.elim)
                  refine ⟨_, rfl, ?_⟩
                  clear hE a; intro a hE
                  refine q0 p5_27_4 hE (st_move rfl) ?_
                  clear hE a; intro a hE
                  refine q0 p5_27_5 hE (st_extract rfl rfl) ?_
                  clear hE a; intro a hE
                  refine q0 p5_27_6 hE (st_extract rfl rfl) ?_
                  clear hE a; intro a hE
                  refine q0 p5_27_7 hE (st_assign rfl) ?_
                  clear hE a; intro a hE
                  refine q0 p5_27_8 hE (st_assign rfl) ?_
                  clear hE a; intro a hE
                  refine p_nil ?_
                  refine x_norm ?_
                  refine c_reg R5_28_l ?_
                  refine q0 p5_28_0 hE (st_fieldAddr Try.underlying33 rfl tS3 rfl rfl) ?_
                  clear hE a; intro a hE
                  refine q0 p5_28_1 hE (st_load1 tA3 rfl ((blk_cell B_g8 2).trans rfl)) ?_
                  clear hE a; intro a hE
                  refine q0 p5_28_2 hE (st_lss (b := true) rfl rfl (decide_eq_true hB1)) ?_
                  clear hE a; intro a hE
                  refine q0 p5_28_3 hE (st_move rfl) ?_
                  clear hE a; intro a hE
                  refine p_cons (s_skip p5_28_4 hE (wn_some g5_28_3 rfl rfl) rfl ?_)
                  clear hE a; intro a hE
                  refine p_cons (s_skip p5_28_5 hE (wn_some g5_28_3 rfl rfl) rfl ?_)
                  clear hE a; intro a hE
                  refine p_cons (s_skip p5_28_6 hE (wn_some g5_28_3 rfl rfl) rfl ?_)
                  clear hE a; intro a hE
                  refine q0 p5_28_7 hE (st_pick rfl rfl) ?_
                  clear hE a; intro a hE
                  refine p_nil ?_
                  refine x_norm ?_
                  refine c_cond (t := true) hE rfl ?_
                  refine c_regL R5_29_l ?_
                  refine q0 p5_29_0 hE (st_move rfl) ?_
                  clear hE a; intro a hE
                  refine q0 p5_29_1 hE (st_eql (b := true) rfl rfl (by decide)) ?_
                  clear hE a; intro a hE
                  refine q0 p5_29_2 hE (st_move rfl) ?_
                  clear hE a; intro a hE
                  refine p_cons (s_still p5_29_3 hE (wn_some g5_29_2 rfl rfl) rfl (st_move rfl) ?_)
                  clear hE a; intro a hE
                  refine p_cons (s_still p5_29_4 hE (wn_some g5_29_2 rfl rfl) rfl (st_len Try.underlying35 rfl) ?_)
                  clear hE a; intro a hE
                  refine p_cons (s_still p5_29_5 hE (wn_some g5_29_2 rfl rfl) rfl (st_eql (b := true) rfl rfl (by decide)) ?_)
                  clear hE a; intro a hE
                  refine q0 p5_29_6 hE (st_pick rfl rfl) ?_
                  clear hE a; intro a hE
                  refine q0 p5_29_7 hE (st_assign rfl) ?_
                  clear hE a; intro a hE
                  refine p_nil ?_
                  refine x_normB ?_
                  refine x_norm ?_
                  refine c_reg R5_31_l ?_
                  refine q0 p5_31_0 hE (st_move rfl) ?_
                  clear hE a; intro a hE
                  refine q0 p5_31_1 hE (st_not rfl rfl) ?_
                  clear hE a; intro a hE
                  refine q0 p5_31_2 hE (st_move rfl) ?_
                  clear hE a; intro a hE
                  refine p_cons (s_still p5_31_3 hE (wn_some g5_31_2 rfl rfl) rfl (st_move rfl) ?_)
                  clear hE a; intro a hE
                  refine p_cons (s_still p5_31_4 hE (wn_some g5_31_2 rfl rfl) rfl (st_move rfl) ?_)
                  clear hE a; intro a hE
                  refine p_cons (s_still p5_31_5 hE (wn_some g5_31_2 rfl rfl) rfl (st_fieldAddr Try.underlying33 rfl tS3 rfl rfl) ?_)
                  clear hE a; intro a hE
                  refine p_cons (s_still p5_31_6 hE (wn_some g5_31_2 rfl rfl) rfl (st_load1 tA3 rfl ((blk_cell B_g8 1).trans rfl)) ?_)
                  clear hE a; intro a hE
                  refine p_cons (s_call (xs := [Operand.tmp 125, Operand.tmp 126, Operand.tmp 128]) (args := [Value.pointer (some ⟨gX, 0, none⟩), Value.pointer (some ⟨g4, 0, none⟩), Value.int .i64 xs]) p5_31_7 hE (wn_some g5_31_2 rfl rfl) rfl rfl Try.func21 cl21 (tells_any gX g4 mb_W l9 L9 nw A_D c_D xs hrel2 (by have := hrel2.perm.length_eq; omega) _ B_gX O_W Nb_W_gX B_g4 O_D hc_D Nb_D_g4) ?_)
                  rintro e w73 ⟨rfl, hk⟩
                  replace B_g4 := kp_blk B_g4 hk (fun h => h)
                  replace B_gX := kp_blk B_gX hk (fun h => h)
                  replace B_g8 := kp_blk B_g8 hk (fun h => h)
                  replace O_W := wm_keep O_W hk (fun _ _ h => h)
                  replace O_D := Rv.rdv_keep O_D hk (fun _ _ h => h)
                  replace K_0 := K_0.then_ hk (fun _ h => h.elim)
                  refine ⟨_, rfl, ?_⟩
                  clear hE a; intro a hE
                  refine p_cons (s_still p5_31_8 hE (wn_some g5_31_2 rfl rfl) rfl (st_not rfl rfl) ?_)
                  clear hE a; intro a hE
                  refine q0 p5_31_9 hE (st_pick rfl rfl) ?_
                  clear hE a; intro a hE
                  refine p_nil ?_
                  refine x_norm ?_
                  refine c_cond (t := false) hE rfl ?_
                  refine wp_skip ?_
                  refine x_normB ?_
                  refine x_norm ?_
                  refine c_regL R5_5_l ?_
                  refine q0 p5_5_0 hE (st_move rfl) ?_
                  clear hE a; intro a hE
                  refine q0 p5_5_1 hE (st_add (z := (i : Int) + 1) rfl rfl (wr_i64 _ (by omega) (by omega))) ?_
                  clear hE a; intro a hE
                  refine q0 p5_5_2 hE (st_assign rfl) ?_
                  clear hE a; intro a hE
                  refine p_nil ?_
                  refine x_norm ?_
                  exact ⟨i + 1, by omega, mb_W, A_D, c_D, L9.length, gX, nw, l9, L9, En.sub hE ⟨rfl, rfl, rfl, rfl, trivial⟩, hrel2, (by omega), by omega, rfl, hc_D, by omega, B_g4, B_gX, z_0_gX, n_g4_gX, O_W, Nb_W_g4, Nb_W_gX, Z_0_W, NN_W_D, O_D, Nb_D_g4, Nb_D_gX, NN_D_W, K_0⟩
                ·
                  rcases Decidable.em (1099511627776 < xn) with hB2 | hB2
                  ·
                    refine c_reg R5_27_l ?_
                    refine q0 p5_27_0 hE (st_move rfl) ?_
                    clear hE a; intro a hE
                    refine q0 p5_27_1 hE (st_fieldAddr Try.underlying33 rfl tS3 rfl rfl) ?_
                    clear hE a; intro a hE
                    refine q0 p5_27_2 hE (st_load1 tA3 rfl ((blk_cell B_g8 2).trans rfl)) ?_
                    clear hE a; intro a hE
                    have hrel2 := hrel
                    have hsl : l9.length ≤ l9.length + 1 := by omega
                    refine p_cons (s_call (xs := [Operand.tmp 91, Operand.tmp 93]) (args := [Value.pointer (some ⟨gX, 0, none⟩), Value.int .i64 xn]) p5_27_3 hE wn_none rfl rfl Try.func13 cl13 (run_bad gX nw xn (Value.map mb_W) (by omega) _ B_gX) ?_)
                    rintro e w74 ⟨rfl, hk⟩
                    replace B_g4 := kp_blk B_g4 hk (fun h => h)
                    replace B_gX := kp_blk B_gX hk (fun h => h)
                    replace B_g8 := kp_blk B_g8 hk (fun h => h)
                    replace O_W := wm_keep O_W hk (fun _ _ h => h)
                    replace O_D := Rv.rdv_keep O_D hk (fun _ _ h => h)
                    replace K_0 := K_0.then_ hk (fun _ h => h.elim)
                    refine ⟨_, rfl, ?_⟩
                    clear hE a; intro a hE
                    refine q0 p5_27_4 hE (st_move rfl) ?_
                    clear hE a; intro a hE
                    refine q0 p5_27_5 hE (st_extract rfl rfl) ?_
                    clear hE a; intro a hE
                    refine q0 p5_27_6 hE (st_extract rfl rfl) ?_
                    clear hE a; intro a hE
                    refine q0 p5_27_7 hE (st_assign rfl) ?_
                    clear hE a; intro a hE
                    refine q0 p5_27_8 hE (st_assign rfl) ?_
                    clear hE a; intro a hE
                    refine p_nil ?_
                    refine x_norm ?_
                    refine c_reg R5_28_l ?_
                    refine q0 p5_28_0 hE (st_fieldAddr Try.underlying33 rfl tS3 rfl rfl) ?_
                    clear hE a; intro a hE
                    refine q0 p5_28_1 hE (st_load1 tA3 rfl ((blk_cell B_g8 2).trans rfl)) ?_
                    clear hE a; intro a hE
                    refine q0 p5_28_2 hE (st_lss (b := false) rfl rfl (decide_eq_false hB1)) ?_
                    clear hE a; intro a hE
                    refine q0 p5_28_3 hE (st_move rfl) ?_
                    clear hE a; intro a hE
                    refine p_cons (s_still p5_28_4 hE (wn_some g5_28_3 rfl rfl) rfl (st_fieldAddr Try.underlying33 rfl tS3 rfl rfl) ?_)
                    clear hE a; intro a hE
                    refine p_cons (s_still p5_28_5 hE (wn_some g5_28_3 rfl rfl) rfl (st_load1 tA3 rfl ((blk_cell B_g8 2).trans rfl)) ?_)
                    clear hE a; intro a hE
                    refine p_cons (s_still p5_28_6 hE (wn_some g5_28_3 rfl rfl) rfl (st_gtr (b := true) rfl rfl (decide_eq_true hB2)) ?_)
                    clear hE a; intro a hE
                    refine q0 p5_28_7 hE (st_pick rfl rfl) ?_
                    clear hE a; intro a hE
                    refine p_nil ?_
                    refine x_norm ?_
                    refine c_cond (t := true) hE rfl ?_
                    refine c_regL R5_29_l ?_
                    refine q0 p5_29_0 hE (st_move rfl) ?_
                    clear hE a; intro a hE
                    refine q0 p5_29_1 hE (st_eql (b := true) rfl rfl (by decide)) ?_
                    clear hE a; intro a hE
                    refine q0 p5_29_2 hE (st_move rfl) ?_
                    clear hE a; intro a hE
                    refine p_cons (s_still p5_29_3 hE (wn_some g5_29_2 rfl rfl) rfl (st_move rfl) ?_)
                    clear hE a; intro a hE
                    refine p_cons (s_still p5_29_4 hE (wn_some g5_29_2 rfl rfl) rfl (st_len Try.underlying35 rfl) ?_)
                    clear hE a; intro a hE
                    refine p_cons (s_still p5_29_5 hE (wn_some g5_29_2 rfl rfl) rfl (st_eql (b := true) rfl rfl (by decide)) ?_)
                    clear hE a; intro a hE
                    refine q0 p5_29_6 hE (st_pick rfl rfl) ?_
                    clear hE a; intro a hE
                    refine q0 p5_29_7 hE (st_assign rfl) ?_
                    clear hE a; intro a hE
                    refine p_nil ?_
                    refine x_normB ?_
                    refine x_norm ?_
                    refine c_reg R5_31_l ?_
                    refine q0 p5_31_0 hE (st_move rfl) ?_
                    clear hE a; intro a hE
                    refine q0 p5_31_1 hE (st_not rfl rfl) ?_
                    clear hE a; intro a hE
                    refine q0 p5_31_2 hE (st_move rfl) ?_
                    clear hE a; intro a hE
                    refine p_cons (s_still p5_31_3 hE (wn_some g5_31_2 rfl rfl) rfl (st_move rfl) ?_)
                    clear hE a; intro a hE
                    refine p_cons (s_still p5_31_4 hE (wn_some g5_31_2 rfl rfl) rfl (st_move rfl) ?_)
                    clear hE a; intro a hE
                    refine p_cons (s_still p5_31_5 hE (wn_some g5_31_2 rfl rfl) rfl (st_fieldAddr Try.underlying33 rfl tS3 rfl rfl) ?_)
                    clear hE a; intro a hE
                    refine p_cons (s_still p5_31_6 hE (wn_some g5_31_2 rfl rfl) rfl (st_load1 tA3 rfl ((blk_cell B_g8 1).trans rfl)) ?_)
                    clear hE a; intro a hE
                    refine p_cons (s_call (xs := [Operand.tmp 125, Operand.tmp 126, Operand.tmp 128]) (args := [Value.pointer (some ⟨gX, 0, none⟩), Value.pointer (some ⟨g4, 0, none⟩), Value.int .i64 xs]) p5_31_7 hE (wn_some g5_31_2 rfl rfl) rfl rfl Try.func21 cl21 (tells_any gX g4 mb_W l9 L9 nw A_D c_D xs hrel2 (by have := hrel2.perm.length_eq; omega) _ B_gX O_W Nb_W_gX B_g4 O_D hc_D Nb_D_g4) ?_)
                    rintro e w75 ⟨rfl, hk⟩
                    replace B_g4 := kp_blk B_g4 hk (fun h => h)
                    replace B_gX := kp_blk B_gX hk (fun h => h)
                    replace B_g8 := kp_blk B_g8 hk (fun h => h)
                    replace O_W := wm_keep O_W hk (fun _ _ h => h)
                    replace O_D := Rv.rdv_keep O_D hk (fun _ _ h => h)
                    replace K_0 := K_0.then_ hk (fun _ h => h.elim)
                    refine ⟨_, rfl, ?_⟩
                    clear hE a; intro a hE
                    refine p_cons (s_still p5_31_8 hE (wn_some g5_31_2 rfl rfl) rfl (st_not rfl rfl) ?_)
                    clear hE a; intro a hE
                    refine q0 p5_31_9 hE (st_pick rfl rfl) ?_
                    clear hE a; intro a hE
                    refine p_nil ?_
                    refine x_norm ?_
                    refine c_cond (t := false) hE rfl ?_
                    refine wp_skip ?_
                    refine x_normB ?_
                    refine x_norm ?_
                    refine c_regL R5_5_l ?_
                    refine q0 p5_5_0 hE (st_move rfl) ?_
                    clear hE a; intro a hE
                    refine q0 p5_5_1 hE (st_add (z := (i : Int) + 1) rfl rfl (wr_i64 _ (by omega) (by omega))) ?_
                    clear hE a; intro a hE
                    refine q0 p5_5_2 hE (st_assign rfl) ?_
                    clear hE a; intro a hE
                    refine p_nil ?_
                    refine x_norm ?_
                    exact ⟨i + 1, by omega, mb_W, A_D, c_D, L9.length, gX, nw, l9, L9, En.sub hE ⟨rfl, rfl, rfl, rfl, trivial⟩, hrel2, (by omega), by omega, rfl, hc_D, by omega, B_g4, B_gX, z_0_gX, n_g4_gX, O_W, Nb_W_g4, Nb_W_gX, Z_0_W, NN_W_D, O_D, Nb_D_g4, Nb_D_gX, NN_D_W, K_0⟩
                  ·
                    refine c_reg R5_27_l ?_
                    refine q0 p5_27_0 hE (st_move rfl) ?_
                    clear hE a; intro a hE
                    refine q0 p5_27_1 hE (st_fieldAddr Try.underlying33 rfl tS3 rfl rfl) ?_
                    clear hE a; intro a hE
                    refine q0 p5_27_2 hE (st_load1 tA3 rfl ((blk_cell B_g8 2).trans rfl)) ?_
                    clear hE a; intro a hE
                    have hnb_g4 := blk_lt B_g4
                    have hnb_gX := blk_lt B_gX
                    have hnb_g8 := blk_lt B_g8
                    have hnz_0 := K_0.kept.1
                    have hno_W := fun k (h : OB (mA mb_W) k) => (wm_ob O_W h).2
                    have hno_D := fun k (h : OB A_D k) => (Rv.rdv_ob O_D h).2
                    have hct := run_u gX nw mb_W l9 xn xn w11 (if_neg (by omega)) ⟨by omega, by omega⟩ ⟨by omega, by omega⟩ (by omega) B_gX O_W Nb_W_gX
                    obtain ⟨FQ79, hFQ79⟩ : ∃ Q, fireO (nw + xn) l9 = Q := ⟨_, rfl⟩
                    obtain ⟨SQ80, hSQ80⟩ : ∃ Q, (fireS (nw + xn) l9).2 = Q := ⟨_, rfl⟩
                    rw [hFQ79, hSQ80] at hct
                    have hfl := fire_lenW hrel.ndl (nw + xn)
                    rw [hFQ79, hSQ80] at hfl
                    have hsl : SQ80.length ≤ l9.length + 1 := by omega
                    refine p_cons (s_call (xs := [Operand.tmp 91, Operand.tmp 93]) (args := [Value.pointer (some ⟨gX, 0, none⟩), Value.int .i64 xn]) p5_27_3 hE wn_none rfl rfl Try.func13 cl13 (hct) ?_)
                    rintro e w81 ⟨At76, ct77, rfl, O_q78, B_gX', O_W', hk⟩
                    replace B_g4 := kp_blk B_g4 hk (fun h => h.elim n_g4_gX Nb_W_g4)
                    replace B_g8 := kp_blk B_g8 hk (fun h => h.elim (Ne.symm n_gX_g8) Nb_W_g8)
                    replace O_D := Rv.rdv_keep O_D hk (fun k hk2 h2 => h2.elim (fun h2 => Nb_D_gX (by rw [show k = gX from h2] at hk2; exact hk2)) (fun h2 => NN_D_W k hk2 h2))
                    replace K_0 := K_0.then_ hk (fun k h => h.elim (fun h => by rw [show k = gX from h]; exact Or.inr z_0_gX) (fun h => Z_0_W k h))
                    replace B_gX := B_gX'
                    replace O_W := O_W'
                    have Nb_q78_g4 : ¬ OB At76 g4 := fun h => by have := (own_ob O_q78 h).1; have := hnb_g4; omega
                    have Nb_q78_gX : ¬ OB At76 gX := fun h => by have := (own_ob O_q78 h).1; have := hnb_gX; omega
                    have Nb_q78_g8 : ¬ OB At76 g8 := fun h => by have := (own_ob O_q78 h).1; have := hnb_g8; omega
                    have Z_0_q78 : ∀ k, OB At76 k → (fun _ => False) k ∨ w.heap.size ≤ k := fun k h => .inr (by have := (own_ob O_q78 h).1; have := hnz_0; omega)
                    have NN_q78_W : ∀ k, OB At76 k → ¬ OB (mA mb_W) k := fun k h h2 => by have := (own_ob O_q78 h).1; have := hno_W k h2; omega
                    have NN_W_q78 : ∀ k, OB (mA mb_W) k → ¬ OB At76 k := fun k h h2 => NN_q78_W k h2 h
                    have NN_q78_D : ∀ k, OB At76 k → ¬ OB A_D k := fun k h h2 => by have := (own_ob O_q78 h).1; have := hno_D k h2; omega
                    have NN_D_q78 : ∀ k, OB A_D k → ¬ OB At76 k := fun k h h2 => NN_q78_D k h2 h
                    replace O_q78 := own_lower O_q78 hnz_0
                    refine ⟨_, rfl, ?_⟩
                    clear hE a; intro a hE
                    refine q0 p5_27_4 hE (st_move rfl) ?_
                    clear hE a; intro a hE
                    refine q0 p5_27_5 hE (st_extract rfl rfl) ?_
                    clear hE a; intro a hE
                    refine q0 p5_27_6 hE (st_extract rfl rfl) ?_
                    clear hE a; intro a hE
                    refine q0 p5_27_7 hE (st_assign rfl) ?_
                    clear hE a; intro a hE
                    refine q0 p5_27_8 hE (st_assign rfl) ?_
                    clear hE a; intro a hE
                    refine p_nil ?_
                    refine x_norm ?_
                    refine c_reg R5_28_l ?_
                    refine q0 p5_28_0 hE (st_fieldAddr Try.underlying33 rfl tS3 rfl rfl) ?_
                    clear hE a; intro a hE
                    refine q0 p5_28_1 hE (st_load1 tA3 rfl ((blk_cell B_g8 2).trans rfl)) ?_
                    clear hE a; intro a hE
                    refine q0 p5_28_2 hE (st_lss (b := false) rfl rfl (decide_eq_false hB1)) ?_
                    clear hE a; intro a hE
                    refine q0 p5_28_3 hE (st_move rfl) ?_
                    clear hE a; intro a hE
                    refine p_cons (s_still p5_28_4 hE (wn_some g5_28_3 rfl rfl) rfl (st_fieldAddr Try.underlying33 rfl tS3 rfl rfl) ?_)
                    clear hE a; intro a hE
                    refine p_cons (s_still p5_28_5 hE (wn_some g5_28_3 rfl rfl) rfl (st_load1 tA3 rfl ((blk_cell B_g8 2).trans rfl)) ?_)
                    clear hE a; intro a hE
                    refine p_cons (s_still p5_28_6 hE (wn_some g5_28_3 rfl rfl) rfl (st_gtr (b := false) rfl rfl (decide_eq_false hB2)) ?_)
                    clear hE a; intro a hE
                    refine q0 p5_28_7 hE (st_pick rfl rfl) ?_
                    clear hE a; intro a hE
                    refine p_nil ?_
                    refine x_norm ?_
                    refine c_cond (t := false) hE rfl ?_
                    refine c_regL R5_30_l ?_
                    refine q0 p5_30_0 hE (st_move rfl) ?_
                    clear hE a; intro a hE
                    refine q0 p5_30_1 hE (st_eql (b := true) rfl rfl (by decide)) ?_
                    clear hE a; intro a hE
                    refine q0 p5_30_2 hE (st_move rfl) ?_
                    clear hE a; intro a hE
                    refine p_cons (s_still p5_30_3 hE (wn_some g5_30_2 rfl rfl) rfl (st_move rfl) ?_)
                    clear hE a; intro a hE
                    refine p_cons (s_still p5_30_4 hE (wn_some g5_30_2 rfl rfl) rfl (st_move rfl) ?_)
                    clear hE a; intro a hE
                    refine p_cons (s_still p5_30_5 hE (wn_some g5_30_2 rfl rfl) rfl (st_fieldAddr Try.underlying33 rfl tS3 rfl rfl) ?_)
                    clear hE a; intro a hE
                    refine p_cons (s_still p5_30_6 hE (wn_some g5_30_2 rfl rfl) rfl (st_load1 tA3 rfl ((blk_cell B_g8 2).trans rfl)) ?_)
                    clear hE a; intro a hE
                    have hnb_g4 := blk_lt B_g4
                    have hnb_gX := blk_lt B_gX
                    have hnb_g8 := blk_lt B_g8
                    have hnz_0 := K_0.kept.1
                    have hno_W := fun k (h : OB (mA mb_W) k) => (wm_ob O_W h).2
                    have hno_D := fun k (h : OB A_D k) => (Rv.rdv_ob O_D h).2
                    have hno_q78 := fun k (h : OB At76 k) => (own_ob O_q78 h).2
                    have hct := rrun_any g4 A_D c_D L9 nw xn xn (if_neg (by omega)) ⟨by omega, by omega⟩ ⟨by omega, by omega⟩ hrel.nd w81 B_g4 O_D hc_D (by omega) Nb_D_g4
                    obtain ⟨SR87, hSR87⟩ : ∃ Q, (fireS (nw + xn) L9).2 = Q := ⟨_, rfl⟩
                    have hrf := hrel.fire (nw + xn)
                    rw [← hrf.1, hFQ79, hSR87] at hct
                    have hrel2 := hrf.2
                    rw [hSQ80, hSR87] at hrel2
                    refine p_cons (s_call (xs := [Operand.tmp 116, Operand.tmp 118]) (args := [Value.pointer (some ⟨g4, 0, none⟩), Value.int .i64 xn]) p5_30_7 hE (wn_some g5_30_2 rfl rfl) rfl rfl Try.func20 cl20 (hct) ?_)
                    rintro e w88 ⟨B82, cb83, AD84, cD85, rfl, O_ra86, B_g4', O_D2, hc_D2, hg9, hk⟩
                    replace B_gX := kp_blk B_gX hk (Ne.symm n_g4_gX)
                    replace B_g8 := kp_blk B_g8 hk (Ne.symm n_g4_g8)
                    replace O_W := wm_keep O_W hk (fun k hk2 h2 => Nb_W_g4 (by rw [show k = g4 from h2] at hk2; exact hk2))
                    replace O_D := Rv.rdv_keep O_D hk (fun k hk2 h2 => Nb_D_g4 (by rw [show k = g4 from h2] at hk2; exact hk2))
                    replace O_q78 := own_keep O_q78 hk (fun k hk2 h2 => Nb_q78_g4 (by rw [show k = g4 from h2] at hk2; exact hk2))
                    replace K_0 := K_0.then_ hk (fun k h => by rw [show k = g4 from h]; exact Or.inr z_0_g4)
                    replace B_g4 := B_g4'
                    have Nb_ra86_g4 : ¬ OB B82 g4 := fun h => by have := (own_ob O_ra86 h).1; have := hnb_g4; omega
                    have Nb_ra86_gX : ¬ OB B82 gX := fun h => by have := (own_ob O_ra86 h).1; have := hnb_gX; omega
                    have Nb_ra86_g8 : ¬ OB B82 g8 := fun h => by have := (own_ob O_ra86 h).1; have := hnb_g8; omega
                    have Z_0_ra86 : ∀ k, OB B82 k → (fun _ => False) k ∨ w.heap.size ≤ k := fun k h => .inr (by have := (own_ob O_ra86 h).1; have := hnz_0; omega)
                    have NN_ra86_W : ∀ k, OB B82 k → ¬ OB (mA mb_W) k := fun k h h2 => by have := (own_ob O_ra86 h).1; have := hno_W k h2; omega
                    have NN_W_ra86 : ∀ k, OB (mA mb_W) k → ¬ OB B82 k := fun k h h2 => NN_ra86_W k h2 h
                    have NN_ra86_q78 : ∀ k, OB B82 k → ¬ OB At76 k := fun k h h2 => by have := (own_ob O_ra86 h).1; have := hno_q78 k h2; omega
                    have NN_q78_ra86 : ∀ k, OB At76 k → ¬ OB B82 k := fun k h h2 => NN_ra86_q78 k h2 h
                    replace O_ra86 := own_lower O_ra86 hnz_0
                    have Nb_D2_g4 : ¬ OB AD84 g4 := fun h => (hg9 _ h).elim Nb_D_g4 (fun h2 => by have := hnb_g4; omega)
                    have Nb_D2_gX : ¬ OB AD84 gX := fun h => (hg9 _ h).elim Nb_D_gX (fun h2 => by have := hnb_gX; omega)
                    have Nb_D2_g8 : ¬ OB AD84 g8 := fun h => (hg9 _ h).elim Nb_D_g8 (fun h2 => by have := hnb_g8; omega)
                    replace NN_D_W : ∀ k, OB AD84 k → ¬ OB (mA mb_W) k := fun k h h2 => (hg9 k h).elim (fun h3 => NN_D_W k h3 h2) (fun h3 => by have := hno_W k h2; omega)
                    replace NN_W_D : ∀ k, OB (mA mb_W) k → ¬ OB AD84 k := fun k h h2 => NN_D_W k h2 h
                    replace NN_D_q78 : ∀ k, OB AD84 k → ¬ OB At76 k := fun k h h2 => (hg9 k h).elim (fun h3 => NN_D_q78 k h3 h2) (fun h3 => by have := hno_q78 k h2; omega)
                    replace NN_q78_D : ∀ k, OB At76 k → ¬ OB AD84 k := fun k h h2 => NN_D_q78 k h2 h
                    have O_D := O_D2
                    have hc_D := hc_D2
                    have Nb_D_g4 := Nb_D2_g4
                    have Nb_D_gX := Nb_D2_gX
                    have Nb_D_g8 := Nb_D2_g8
                    refine ⟨_, rfl, ?_⟩
                    clear hE a; intro a hE
                    refine p_cons (s_call (xs := [Operand.tmp 115, Operand.tmp 119]) (args := [Value.slice At76 FQ79.length ct77, Value.slice B82 FQ79.length cb83]) p5_30_8 hE (wn_some g5_30_2 rfl rfl) rfl rfl Try.func15 cl15 (same_i At76 B82 ct77 cb83 FQ79 _ (by omega) (own_told O_q78) (own_told O_ra86)) ?_)
                    rintro e w89 ⟨rfl, hk⟩
                    replace B_g4 := kp_blk B_g4 hk (fun h => h)
                    replace B_gX := kp_blk B_gX hk (fun h => h)
                    replace B_g8 := kp_blk B_g8 hk (fun h => h)
                    replace O_W := wm_keep O_W hk (fun _ _ h => h)
                    replace O_q78 := own_keep O_q78 hk (fun _ _ h => h)
                    replace O_D := Rv.rdv_keep O_D hk (fun _ _ h => h)
                    replace K_0 := K_0.then_ hk (fun _ h => h.elim)
                    refine ⟨_, rfl, ?_⟩
                    clear hE a; intro a hE
                    refine q0 p5_30_9 hE (st_pick rfl rfl) ?_
                    clear hE a; intro a hE
                    refine q0 p5_30_10 hE (st_assign rfl) ?_
                    clear hE a; intro a hE
                    refine p_nil ?_
                    refine x_normB ?_
                    refine x_norm ?_
                    refine c_reg R5_31_l ?_
                    refine q0 p5_31_0 hE (st_move rfl) ?_
                    clear hE a; intro a hE
                    refine q0 p5_31_1 hE (st_not rfl rfl) ?_
                    clear hE a; intro a hE
                    refine q0 p5_31_2 hE (st_move rfl) ?_
                    clear hE a; intro a hE
                    refine p_cons (s_still p5_31_3 hE (wn_some g5_31_2 rfl rfl) rfl (st_move rfl) ?_)
                    clear hE a; intro a hE
                    refine p_cons (s_still p5_31_4 hE (wn_some g5_31_2 rfl rfl) rfl (st_move rfl) ?_)
                    clear hE a; intro a hE
                    refine p_cons (s_still p5_31_5 hE (wn_some g5_31_2 rfl rfl) rfl (st_fieldAddr Try.underlying33 rfl tS3 rfl rfl) ?_)
                    clear hE a; intro a hE
                    refine p_cons (s_still p5_31_6 hE (wn_some g5_31_2 rfl rfl) rfl (st_load1 tA3 rfl ((blk_cell B_g8 1).trans rfl)) ?_)
                    clear hE a; intro a hE
                    refine p_cons (s_call (xs := [Operand.tmp 125, Operand.tmp 126, Operand.tmp 128]) (args := [Value.pointer (some ⟨gX, 0, none⟩), Value.pointer (some ⟨g4, 0, none⟩), Value.int .i64 xs]) p5_31_7 hE (wn_some g5_31_2 rfl rfl) rfl rfl Try.func21 cl21 (tells_any gX g4 mb_W SQ80 SR87 (nw + xn) AD84 cD85 xs hrel2 (by have := hrel2.perm.length_eq; omega) _ B_gX O_W Nb_W_gX B_g4 O_D hc_D Nb_D_g4) ?_)
                    rintro e w90 ⟨rfl, hk⟩
                    replace B_g4 := kp_blk B_g4 hk (fun h => h)
                    replace B_gX := kp_blk B_gX hk (fun h => h)
                    replace B_g8 := kp_blk B_g8 hk (fun h => h)
                    replace O_W := wm_keep O_W hk (fun _ _ h => h)
                    replace O_D := Rv.rdv_keep O_D hk (fun _ _ h => h)
                    replace K_0 := K_0.then_ hk (fun _ h => h.elim)
                    refine ⟨_, rfl, ?_⟩
                    clear hE a; intro a hE
                    refine p_cons (s_still p5_31_8 hE (wn_some g5_31_2 rfl rfl) rfl (st_not rfl rfl) ?_)
                    clear hE a; intro a hE
                    refine q0 p5_31_9 hE (st_pick rfl rfl) ?_
                    clear hE a; intro a hE
                    refine p_nil ?_
                    refine x_norm ?_
                    refine c_cond (t := false) hE rfl ?_
                    refine wp_skip ?_
                    refine x_normB ?_
                    refine x_norm ?_
                    refine c_regL R5_5_l ?_
                    refine q0 p5_5_0 hE (st_move rfl) ?_
                    clear hE a; intro a hE
                    refine q0 p5_5_1 hE (st_add (z := (i : Int) + 1) rfl rfl (wr_i64 _ (by omega) (by omega))) ?_
                    clear hE a; intro a hE
                    refine q0 p5_5_2 hE (st_assign rfl) ?_
                    clear hE a; intro a hE
                    refine p_nil ?_
                    refine x_norm ?_
                    exact ⟨i + 1, by omega, mb_W, AD84, cD85, SR87.length, gX, (nw + xn), SQ80, SR87, En.sub hE ⟨rfl, rfl, rfl, rfl, trivial⟩, hrel2, (by omega), by omega, rfl, hc_D, by omega, B_g4, B_gX, z_0_gX, n_g4_gX, O_W, Nb_W_g4, Nb_W_gX, Z_0_W, NN_W_D, O_D, Nb_D_g4, Nb_D_gX, NN_D_W, K_0⟩
              ·
                refine c_reg R5_26_l ?_
                refine q0 p5_26_0 hE (st_eql (b := false) rfl rfl (decide_eq_false hKD)) ?_
                clear hE a; intro a hE
                refine q0 p5_26_1 hE (st_assign rfl) ?_
                clear hE a; intro a hE
                refine p_nil ?_
                refine x_norm ?_
                refine c_cond (t := false) hE rfl ?_
                refine c_reg R5_9_l ?_
                refine q0 p5_9_0 hE (st_move rfl) ?_
                clear hE a; intro a hE
                have hnb_g4 := blk_lt B_g4
                have hnb_gX := blk_lt B_gX
                have hnb_g8 := blk_lt B_g8
                have hno_W := fun k (h : OB (mA mb_W) k) => (wm_ob O_W h).2
                have hno_D := fun k (h : OB A_D k) => (Rv.rdv_ob O_D h).2
                have hkz9 := K_0.kept.1
                refine p_cons (s_call (xs := [Operand.tmp 34]) (args := [Value.pointer (some ⟨gX, 0, none⟩)]) p5_9_1 hE wn_none rfl rfl Try.func12 cl12 (copy_u gX nw mb_W l9 _ B_gX O_W Nb_W_gX) ?_)
                rintro e w91 ⟨gC, mbC, rfl, zC9, hnC, hgC, B_gC, O_V, hk⟩
                have n_g4_gC : g4 ≠ gC := ne_new B_g4 zC9
                have n_gX_gC : gX ≠ gC := ne_new B_gX zC9
                have n_g8_gC : g8 ≠ gC := ne_new B_g8 zC9
                have z_0_gC := Nat.le_trans K_0.kept.1 zC9
                have Nb_W_gC : ¬ OB (mA mb_W) gC := fun h => by have := (wm_ob O_W h).2; omega
                have Nb_D_gC : ¬ OB A_D gC := fun h => by have := (Rv.rdv_ob O_D h).2; omega
                replace B_g4 := kp_blk B_g4 hk (fun h => h)
                replace B_gX := kp_blk B_gX hk (fun h => h)
                replace B_g8 := kp_blk B_g8 hk (fun h => h)
                replace O_W := wm_keep O_W hk (fun _ _ h => h)
                replace O_D := Rv.rdv_keep O_D hk (fun _ _ h => h)
                replace K_0 := K_0.then_ hk (fun _ h => h.elim)
                have Nb_V_g4 : ¬ OB (mA mbC) g4 := fun h => by have := hgC _ h; have := hnb_g4; omega
                have Nb_V_gX : ¬ OB (mA mbC) gX := fun h => by have := hgC _ h; have := hnb_gX; omega
                have Nb_V_g8 : ¬ OB (mA mbC) g8 := fun h => by have := hgC _ h; have := hnb_g8; omega
                have Nb_V_gC : ¬ OB (mA mbC) gC := hnC
                have Z_0_V : ∀ k, OB (mA mbC) k → (fun _ => False) k ∨ w.heap.size ≤ k := fun k h => .inr (Nat.le_trans hkz9 (hgC k h))
                have NN_V_W : ∀ k, OB (mA mbC) k → ¬ OB (mA mb_W) k := fun k h h2 => by have := hno_W k h2; have := hgC k h; omega
                have NN_W_V : ∀ k, OB (mA mb_W) k → ¬ OB (mA mbC) k := fun k h h2 => NN_V_W k h2 h
                have NN_V_D : ∀ k, OB (mA mbC) k → ¬ OB A_D k := fun k h h2 => by have := hno_D k h2; have := hgC k h; omega
                have NN_D_V : ∀ k, OB A_D k → ¬ OB (mA mbC) k := fun k h h2 => NN_V_D k h2 h
                have hrel2 := hrel
                have hsl : l9.length ≤ l9.length + 1 := by omega
                refine ⟨_, rfl, ?_⟩
                clear hE a; intro a hE
                refine q0 p5_9_2 hE (st_assign rfl) ?_
                clear hE a; intro a hE
                refine p_nil ?_
                refine x_norm ?_
                refine wp_seq ?_
                refine c_reg R5_10_l ?_
                refine q0 p5_10_0 hE (st_move rfl) ?_
                clear hE a; intro a hE
                refine q0 p5_10_1 hE (st_eqlP (b := false) tP24 rfl rfl rfl) ?_
                clear hE a; intro a hE
                refine p_nil ?_
                refine x_norm ?_
                refine c_cond (t := false) hE rfl ?_
                refine wp_skip ?_
                refine x_norm ?_
                refine c_reg R5_12_l ?_
                refine q0 p5_12_0 hE (st_move rfl) ?_
                clear hE a; intro a hE
                have hnb_g4 := blk_lt B_g4
                have hnb_gX := blk_lt B_gX
                have hnb_g8 := blk_lt B_g8
                have hnb_gC := blk_lt B_gC
                have hno_W := fun k (h : OB (mA mb_W) k) => (wm_ob O_W h).2
                have hno_D := fun k (h : OB A_D k) => (Rv.rdv_ob O_D h).2
                have hno_V := fun k (h : OB (mA mbC) k) => (wm_ob O_V h).2
                have hkz9 := K_0.kept.1
                refine p_cons (s_call (xs := [Operand.tmp 38, Operand.const (Value.int IntKind.i64 0), Operand.const (Value.int IntKind.i64 1)]) (args := [Value.pointer (some ⟨gX, 0, none⟩), Value.int .i64 0, Value.int .i64 1]) p5_12_1 hE wn_none rfl rfl Try.func8 cl8 (set_u gX nw mb_W l9 0 1 _ ⟨by omega, by omega⟩ B_gX O_W Nb_W_gX) ?_)
                rintro e w93 ⟨mbx92, rfl, B_gX', O_W', hg9, hk⟩
                replace B_g4 := kp_blk B_g4 hk (fun h => h.elim n_g4_gX Nb_W_g4)
                replace B_g8 := kp_blk B_g8 hk (fun h => h.elim (Ne.symm n_gX_g8) Nb_W_g8)
                replace B_gC := kp_blk B_gC hk (fun h => h.elim (Ne.symm n_gX_gC) Nb_W_gC)
                replace O_D := Rv.rdv_keep O_D hk (fun k hk2 h2 => h2.elim (fun h2 => Nb_D_gX (by rw [show k = gX from h2] at hk2; exact hk2)) (fun h2 => NN_D_W k hk2 h2))
                replace O_V := wm_keep O_V hk (fun k hk2 h2 => h2.elim (fun h2 => Nb_V_gX (by rw [show k = gX from h2] at hk2; exact hk2)) (fun h2 => NN_V_W k hk2 h2))
                replace K_0 := K_0.then_ hk (fun k h => h.elim (fun h => by rw [show k = gX from h]; exact Or.inr z_0_gX) (fun h => Z_0_W k h))
                replace B_gX := B_gX'
                replace O_W := O_W'
                replace Nb_W_g4 : ¬ OB (mA mbx92) g4 := fun h => (hg9 _ h).elim Nb_W_g4 (fun h2 => by have := hnb_g4; omega)
                replace Nb_W_gX : ¬ OB (mA mbx92) gX := fun h => (hg9 _ h).elim Nb_W_gX (fun h2 => by have := hnb_gX; omega)
                replace Nb_W_g8 : ¬ OB (mA mbx92) g8 := fun h => (hg9 _ h).elim Nb_W_g8 (fun h2 => by have := hnb_g8; omega)
                replace Nb_W_gC : ¬ OB (mA mbx92) gC := fun h => (hg9 _ h).elim Nb_W_gC (fun h2 => by have := hnb_gC; omega)
                replace Z_0_W : ∀ k, OB (mA mbx92) k → (fun _ => False) k ∨ w.heap.size ≤ k := fun k h => (hg9 k h).elim (Z_0_W k) (fun h => .inr (Nat.le_trans hkz9 h))
                replace NN_W_D : ∀ k, OB (mA mbx92) k → ¬ OB A_D k := fun k h h2 => (hg9 _ h).elim (fun h3 => NN_W_D k h3 h2) (fun h3 => by have := hno_D k h2; omega)
                replace NN_D_W : ∀ k, OB A_D k → ¬ OB (mA mbx92) k := fun k h h2 => NN_W_D k h2 h
                replace NN_W_V : ∀ k, OB (mA mbx92) k → ¬ OB (mA mbC) k := fun k h h2 => (hg9 _ h).elim (fun h3 => NN_W_V k h3 h2) (fun h3 => by have := hno_V k h2; omega)
                replace NN_V_W : ∀ k, OB (mA mbC) k → ¬ OB (mA mbx92) k := fun k h h2 => NN_W_V k h2 h
                have hsw := set_lenW l9 nw 0 1
                refine ⟨_, rfl, ?_⟩
                clear hE a; intro a hE
                refine p_nil ?_
                refine x_norm ?_
                refine c_reg R5_13_l ?_
                refine q0 p5_13_0 hE (st_move rfl) ?_
                clear hE a; intro a hE
                have hnb_g4 := blk_lt B_g4
                have hnb_gX := blk_lt B_gX
                have hnb_g8 := blk_lt B_g8
                have hnb_gC := blk_lt B_gC
                have hnz_0 := K_0.kept.1
                have hno_W := fun k (h : OB (mA mbx92) k) => (wm_ob O_W h).2
                have hno_D := fun k (h : OB A_D k) => (Rv.rdv_ob O_D h).2
                have hno_V := fun k (h : OB (mA mbC) k) => (wm_ob O_V h).2
                have hct := tick_u gX nw mbx92 (setW l9 nw 0 1) w93 ⟨by omega, by omega⟩ (by omega) B_gX O_W Nb_W_gX
                obtain ⟨FQ97, hFQ97⟩ : ∃ Q, fireO (nw + 1) (setW l9 nw 0 1) = Q := ⟨_, rfl⟩
                obtain ⟨SQ98, hSQ98⟩ : ∃ Q, (fireS (nw + 1) (setW l9 nw 0 1)).2 = Q := ⟨_, rfl⟩
                rw [hFQ97, hSQ98] at hct
                refine p_cons (s_call (xs := [Operand.tmp 40]) (args := [Value.pointer (some ⟨gX, 0, none⟩)]) p5_13_1 hE wn_none rfl rfl Try.func10 cl10 (hct) ?_)
                rintro e w99 ⟨At94, ct95, rfl, O_q96, B_gX', O_W', hk⟩
                replace B_g4 := kp_blk B_g4 hk (fun h => h.elim n_g4_gX Nb_W_g4)
                replace B_g8 := kp_blk B_g8 hk (fun h => h.elim (Ne.symm n_gX_g8) Nb_W_g8)
                replace B_gC := kp_blk B_gC hk (fun h => h.elim (Ne.symm n_gX_gC) Nb_W_gC)
                replace O_D := Rv.rdv_keep O_D hk (fun k hk2 h2 => h2.elim (fun h2 => Nb_D_gX (by rw [show k = gX from h2] at hk2; exact hk2)) (fun h2 => NN_D_W k hk2 h2))
                replace O_V := wm_keep O_V hk (fun k hk2 h2 => h2.elim (fun h2 => Nb_V_gX (by rw [show k = gX from h2] at hk2; exact hk2)) (fun h2 => NN_V_W k hk2 h2))
                replace K_0 := K_0.then_ hk (fun k h => h.elim (fun h => by rw [show k = gX from h]; exact Or.inr z_0_gX) (fun h => Z_0_W k h))
                replace B_gX := B_gX'
                replace O_W := O_W'
                have Nb_q96_g4 : ¬ OB At94 g4 := fun h => by have := (own_ob O_q96 h).1; have := hnb_g4; omega
                have Nb_q96_gX : ¬ OB At94 gX := fun h => by have := (own_ob O_q96 h).1; have := hnb_gX; omega
                have Nb_q96_g8 : ¬ OB At94 g8 := fun h => by have := (own_ob O_q96 h).1; have := hnb_g8; omega
                have Nb_q96_gC : ¬ OB At94 gC := fun h => by have := (own_ob O_q96 h).1; have := hnb_gC; omega
                have Z_0_q96 : ∀ k, OB At94 k → (fun _ => False) k ∨ w.heap.size ≤ k := fun k h => .inr (by have := (own_ob O_q96 h).1; have := hnz_0; omega)
                have NN_q96_W : ∀ k, OB At94 k → ¬ OB (mA mbx92) k := fun k h h2 => by have := (own_ob O_q96 h).1; have := hno_W k h2; omega
                have NN_W_q96 : ∀ k, OB (mA mbx92) k → ¬ OB At94 k := fun k h h2 => NN_q96_W k h2 h
                have NN_q96_D : ∀ k, OB At94 k → ¬ OB A_D k := fun k h h2 => by have := (own_ob O_q96 h).1; have := hno_D k h2; omega
                have NN_D_q96 : ∀ k, OB A_D k → ¬ OB At94 k := fun k h h2 => NN_q96_D k h2 h
                have NN_q96_V : ∀ k, OB At94 k → ¬ OB (mA mbC) k := fun k h h2 => by have := (own_ob O_q96 h).1; have := hno_V k h2; omega
                have NN_V_q96 : ∀ k, OB (mA mbC) k → ¬ OB At94 k := fun k h h2 => NN_q96_V k h2 h
                replace O_q96 := own_lower O_q96 hnz_0
                refine ⟨_, rfl, ?_⟩
                clear hE a; intro a hE
                refine p_nil ?_
                refine x_norm ?_
                refine c_regL R5_14_l ?_
                refine q0 p5_14_0 hE (st_move rfl) ?_
                clear hE a; intro a hE
                refine q0 p5_14_1 hE (st_assign rfl) ?_
                clear hE a; intro a hE
                refine p_nil ?_
                refine x_normB ?_
                refine x_norm ?_
                refine c_reg R5_31_l ?_
                have O_W := O_V
                have Z_0_W := Z_0_V
                have NN_W_D := NN_V_D
                have NN_D_W := NN_D_V
                have Nb_W_g4 := Nb_V_g4
                have Nb_W_gX := Nb_V_gX
                have Nb_W_g8 := Nb_V_g8
                have Nb_W_gC := Nb_V_gC
                refine q0 p5_31_0 hE (st_move rfl) ?_
                clear hE a; intro a hE
                refine q0 p5_31_1 hE (st_not rfl rfl) ?_
                clear hE a; intro a hE
                refine q0 p5_31_2 hE (st_move rfl) ?_
                clear hE a; intro a hE
                refine p_cons (s_still p5_31_3 hE (wn_some g5_31_2 rfl rfl) rfl (st_move rfl) ?_)
                clear hE a; intro a hE
                refine p_cons (s_still p5_31_4 hE (wn_some g5_31_2 rfl rfl) rfl (st_move rfl) ?_)
                clear hE a; intro a hE
                refine p_cons (s_still p5_31_5 hE (wn_some g5_31_2 rfl rfl) rfl (st_fieldAddr Try.underlying33 rfl tS3 rfl rfl) ?_)
                clear hE a; intro a hE
                refine p_cons (s_still p5_31_6 hE (wn_some g5_31_2 rfl rfl) rfl (st_load1 tA3 rfl ((blk_cell B_g8 1).trans rfl)) ?_)
                clear hE a; intro a hE
                refine p_cons (s_call (xs := [Operand.tmp 125, Operand.tmp 126, Operand.tmp 128]) (args := [Value.pointer (some ⟨gC, 0, none⟩), Value.pointer (some ⟨g4, 0, none⟩), Value.int .i64 xs]) p5_31_7 hE (wn_some g5_31_2 rfl rfl) rfl rfl Try.func21 cl21 (tells_any gC g4 mbC l9 L9 nw A_D c_D xs hrel2 (by have := hrel2.perm.length_eq; omega) _ B_gC O_W Nb_W_gC B_g4 O_D hc_D Nb_D_g4) ?_)
                rintro e w100 ⟨rfl, hk⟩
                replace B_g4 := kp_blk B_g4 hk (fun h => h)
                replace B_gX := kp_blk B_gX hk (fun h => h)
                replace B_g8 := kp_blk B_g8 hk (fun h => h)
                replace B_gC := kp_blk B_gC hk (fun h => h)
                replace O_D := Rv.rdv_keep O_D hk (fun _ _ h => h)
                replace O_W := wm_keep O_W hk (fun _ _ h => h)
                replace K_0 := K_0.then_ hk (fun _ h => h.elim)
                refine ⟨_, rfl, ?_⟩
                clear hE a; intro a hE
                refine p_cons (s_still p5_31_8 hE (wn_some g5_31_2 rfl rfl) rfl (st_not rfl rfl) ?_)
                clear hE a; intro a hE
                refine q0 p5_31_9 hE (st_pick rfl rfl) ?_
                clear hE a; intro a hE
                refine p_nil ?_
                refine x_norm ?_
                refine c_cond (t := false) hE rfl ?_
                refine wp_skip ?_
                refine x_normB ?_
                refine x_norm ?_
                refine c_regL R5_5_l ?_
                refine q0 p5_5_0 hE (st_move rfl) ?_
                clear hE a; intro a hE
                refine q0 p5_5_1 hE (st_add (z := (i : Int) + 1) rfl rfl (wr_i64 _ (by omega) (by omega))) ?_
                clear hE a; intro a hE
                refine q0 p5_5_2 hE (st_assign rfl) ?_
                clear hE a; intro a hE
                refine p_nil ?_
                refine x_norm ?_
                exact ⟨i + 1, by omega, mbC, A_D, c_D, L9.length, gC, nw, l9, L9, En.sub hE ⟨rfl, rfl, rfl, rfl, trivial⟩, hrel2, (by omega), by omega, rfl, hc_D, by omega, B_g4, B_gC, z_0_gC, n_g4_gC, O_W, Nb_W_g4, Nb_W_gC, Z_0_W, NN_W_D, O_D, Nb_D_g4, Nb_D_gC, NN_D_W, K_0⟩
      ·
        refine c_reg R5_4_l ?_
        refine q0 p5_4_0 hE (st_move rfl) ?_
        clear hE a; intro a hE
        refine q0 p5_4_1 hE (st_move rfl) ?_
        clear hE a; intro a hE
        refine q0 p5_4_2 hE (st_len Try.underlying22 rfl) ?_
        clear hE a; intro a hE
        refine q0 p5_4_3 hE (st_lss (b := true) rfl rfl (decide_eq_true hI1)) ?_
        clear hE a; intro a hE
        refine q0 p5_4_4 hE (st_move rfl) ?_
        clear hE a; intro a hE
        refine p_cons (s_still p5_4_5 hE (wn_some g5_4_4 rfl rfl) rfl (st_move rfl) ?_)
        clear hE a; intro a hE
        refine p_cons (s_still p5_4_6 hE (wn_some g5_4_4 rfl rfl) rfl (st_lss (b := false) rfl rfl (decide_eq_false hI2)) ?_)
        clear hE a; intro a hE
        refine q0 p5_4_7 hE (st_pick rfl rfl) ?_
        clear hE a; intro a hE
        refine p_nil ?_
        refine x_norm ?_
        refine c_cond (t := false) hE rfl ?_
        refine wp_exit ?_
        refine x_exit ?_
        refine x_exit ?_
        refine x_in ?_
        refine x_norm ?_
        refine c_reg R5_33_l ?_
        refine p_cons (s_call (xs := []) (args := []) p5_33_0 hE wn_none rfl rfl Try.func11 cl11 (kn10  _) ?_)
        rintro e w101 ⟨rfl, hk⟩
        replace B_g4 := kp_blk B_g4 hk (fun h => h)
        replace B_gX := kp_blk B_gX hk (fun h => h)
        replace O_W := wm_keep O_W hk (fun _ _ h => h)
        replace O_D := Rv.rdv_keep O_D hk (fun _ _ h => h)
        replace K_0 := K_0.then_ hk (fun _ h => h.elim)
        refine ⟨_, rfl, ?_⟩
        clear hE a; intro a hE
        refine q0 p5_33_1 hE (st_assign rfl) ?_
        clear hE a; intro a hE
        refine p_nil ?_
        refine x_norm ?_
        refine wp_ret ?_
        refine ret_one (v := Value.bool true) rfl hE (.tmp rfl .nil) ?_
        exact ⟨rfl, K_0.to (Nat.le_refl _) (fun _ h => h.elim)⟩
    ·
      refine c_reg R5_4_l ?_
      refine q0 p5_4_0 hE (st_move rfl) ?_
      clear hE a; intro a hE
      refine q0 p5_4_1 hE (st_move rfl) ?_
      clear hE a; intro a hE
      refine q0 p5_4_2 hE (st_len Try.underlying22 rfl) ?_
      clear hE a; intro a hE
      refine q0 p5_4_3 hE (st_lss (b := false) rfl rfl (decide_eq_false hI1)) ?_
      clear hE a; intro a hE
      refine q0 p5_4_4 hE (st_move rfl) ?_
      clear hE a; intro a hE
      refine p_cons (s_skip p5_4_5 hE (wn_some g5_4_4 rfl rfl) rfl ?_)
      clear hE a; intro a hE
      refine p_cons (s_skip p5_4_6 hE (wn_some g5_4_4 rfl rfl) rfl ?_)
      clear hE a; intro a hE
      refine q0 p5_4_7 hE (st_pick rfl rfl) ?_
      clear hE a; intro a hE
      refine p_nil ?_
      refine x_norm ?_
      refine c_cond (t := false) hE rfl ?_
      refine wp_exit ?_
      refine x_exit ?_
      refine x_exit ?_
      refine x_in ?_
      refine x_norm ?_
      refine c_reg R5_33_l ?_
      refine p_cons (s_call (xs := []) (args := []) p5_33_0 hE wn_none rfl rfl Try.func11 cl11 (kn10  _) ?_)
      rintro e w102 ⟨rfl, hk⟩
      replace B_g4 := kp_blk B_g4 hk (fun h => h)
      replace B_gX := kp_blk B_gX hk (fun h => h)
      replace O_W := wm_keep O_W hk (fun _ _ h => h)
      replace O_D := Rv.rdv_keep O_D hk (fun _ _ h => h)
      replace K_0 := K_0.then_ hk (fun _ h => h.elim)
      refine ⟨_, rfl, ?_⟩
      clear hE a; intro a hE
      refine q0 p5_33_1 hE (st_assign rfl) ?_
      clear hE a; intro a hE
      refine p_nil ?_
      refine x_norm ?_
      refine wp_ret ?_
      refine ret_one (v := Value.bool true) rfl hE (.tmp rfl .nil) ?_
      exact ⟨rfl, K_0.to (Nat.le_refl _) (fun _ h => h.elim)⟩
end Go.Proofs.Ytlmjbmeigclihaa.Wz
